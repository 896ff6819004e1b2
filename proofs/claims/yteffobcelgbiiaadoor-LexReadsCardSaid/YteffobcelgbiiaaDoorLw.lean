/- Layer 5, walks: the laws LexReads, LexBack. -/
import Derived.Test.YteffobcelgbiiaaDoorLv
namespace Go.Proofs.YteffobcelgbiiaaDoor
open Go.RowKit

/-! ### bounds -/
theorem tok_bd {l : List UInt8} {k : Int} {t : List UInt8} {n : Int} {m : Nat} (h : tok l = .ok (k, t, n, m)) : t.length ≤ l.length ∧ 0 ≤ n ∧ n ≤ 4611686018427387903 := by
  have hr : ∀ x, 0 ≤ readN x ∧ readN x ≤ 4611686018427387903 := by
    intro x; unfold readN; split
    · rename_i h; omega
    · omega
  unfold tok at h
  split at h
  · cases h
  · rename_i c r
    have hle := runL_le (c :: r)
    have hle2 := runL_le r
    split at h
    · simp only [Except.ok.injEq, Prod.mk.injEq] at h; obtain ⟨_, rfl, rfl, _⟩ := h; omega
    · split at h
      · simp only [Except.ok.injEq, Prod.mk.injEq] at h; obtain ⟨_, rfl, rfl, _⟩ := h; omega
      · split at h
        · simp only [Except.ok.injEq, Prod.mk.injEq] at h; obtain ⟨_, rfl, rfl, _⟩ := h; simp only [List.length_cons]; omega
        · split at h
          · split at h
            · simp only [Except.ok.injEq, Prod.mk.injEq] at h; obtain ⟨_, rfl, rfl, _⟩ := h
              have := hr (runL (c :: r))
              exact ⟨by simp, this.1, this.2⟩
            · cases h
          · split at h
            · split at h
              · cases h
              · rename_i j hq
                split at h
                · cases h
                · rename_i u hu
                  simp only [Except.ok.injEq, Prod.mk.injEq] at h; obtain ⟨_, rfl, rfl, _⟩ := h
                  have h1 := unq_some hu
                  have h2 := length_quotes u
                  have h3 := congrArg List.length h1
                  simp only [quoteL, List.length_cons, List.length_append, List.length_take] at h3
                  simp only [List.length_cons]
                  omega
            · split at h
              · cases h
              · rename_i x hx
                simp only [Except.ok.injEq, Prod.mk.injEq] at h; obtain ⟨_, rfl, rfl, _⟩ := h
                have hp := (List.isPrefixOf_iff_prefix.1 (List.find?_some (p := fun x : List UInt8 => x.isPrefixOf (c :: r)) hx)).length_le
                omega
structure TokBd (M : Nat) (t : Tok) : Prop where
  k0 : 0 ≤ t.k
  k1 : t.k ≤ 7
  a : t.at' ≤ M
  x : t.text.length ≤ M
  n0 : 0 ≤ t.n
  n1 : t.n ≤ 4611686018427387903
  l : (tokText t.k t.text t.n).length ≤ M
theorem lexL_bd {f a : Nat} {l : List UInt8} {ts : List Tok} (h : lexL f a l = .ok ts) : ts.length ≤ l.length + 1 ∧ ∀ t ∈ ts, TokBd (a + l.length) t := by
  refine lexL_ind (P := fun a l ts => ts.length ≤ l.length + 1 ∧ ∀ t ∈ ts, TokBd (a + l.length) t) ?_ ?_ ?_ f a l ts h
  · intro a
    refine ⟨by simp, fun t ht => ?_⟩
    rw [List.mem_singleton] at ht
    subst ht
    exact ⟨Int.le_refl 0, by simp only; omega, by simp, by simp, Int.le_refl 0, by simp only; omega, by simp [tokText]⟩
  · rintro a c r ts _ ⟨h1, h2⟩
    refine ⟨by rw [List.length_cons]; omega, fun t ht => ?_⟩
    have := h2 t ht
    rw [List.length_cons, show a + (r.length + 1) = a + 1 + r.length by omega]
    exact this
  · rintro a c r k t n m ts _ ht ⟨h1, h2⟩
    have hm := tok_len ht
    have hk := tok_kind ht
    have hb := tok_bd ht
    have hl := tok_mlen ht
    rw [List.length_drop] at h1
    refine ⟨by rw [List.length_cons]; omega, fun u hu => ?_⟩
    rcases List.mem_cons.1 hu with rfl | hu
    · exact ⟨by simp only; omega, hk.2, by simp only; omega, by simp only; omega, hb.2.1, hb.2.2, by simp only; omega⟩
    · have := h2 u hu
      rw [List.length_drop, show a + m + ((c :: r).length - m) = a + (c :: r).length by omega] at this
      exact this
theorem lexOf_ok {s : List UInt8} {ts : List Tok} (h : lexOf s = .ok ts) : s.length ≤ 4096 ∧ lexL s.length 0 s = .ok ts ∧ ts.length ≤ 4097 ∧ (∀ t ∈ ts, TokBd 4096 t) ∧ ∃ ys, ts = ys ++ [⟨0, s.length, [], 0⟩] ∧ ∀ y ∈ ys, GoodT y := by
  unfold lexOf at h
  split at h
  · cases h
  · rename_i hs
    have hb := lexL_bd h
    obtain ⟨ys, hy, hg⟩ := lexL_last h
    refine ⟨by omega, h, by omega, fun t ht => ?_, ys, by rw [hy, Nat.zero_add], hg⟩
    have := hb.2 t ht
    exact ⟨this.k0, this.k1, by have := this.a; omega, by have := this.x; omega, this.n0, this.n1, by have := this.l; omega⟩
theorem lexOf_err {s : List UInt8} {e : Int} {p : Nat} (h : lexOf s = .error (e, p)) : (4096 < s.length ∧ e = 4 ∧ p = 0) ∨ (s.length ≤ 4096 ∧ p < s.length ∧ (e = 20 ∨ e = 2) ∧ lexL s.length 0 s = .error (e, p)) := by
  unfold lexOf at h
  split at h
  · rename_i hs; cases h; exact .inl ⟨hs, rfl, rfl⟩
  · rename_i hs
    have := lexL_err s.length 0 s e p (Nat.le_refl _) h
    exact .inr ⟨by omega, by omega, this.2.2, h⟩

def lexF (r : Except (Int × Nat) (List Tok)) (e : Ending) (w' : World) : Prop := match r with
  | .error (er, p) => e = .returned (.tuple #[.slice none 0 0, .int .i64 er, .int .i64 p])
  | .ok ts => ∃ g c, e = .returned (.tuple #[.slice (some ⟨g, 0, none⟩) ts.length c, .int .i64 0, .int .i64 0]) ∧ g < w'.heap.size ∧ RT g ts w'
theorem lexF_of {s : List UInt8} {B : Nat} {e : Ending} {w' : World} (h : lexOk (lexOf s) B e w') : lexF (lexOf s) e w' := by
  cases hl : lexOf s with
  | error x => rw [hl] at h; exact h
  | ok ts =>
    rw [hl] at h
    obtain ⟨v, rfl, hO⟩ := h
    obtain ⟨_, _, _, _, ys, rfl, _⟩ := lexOf_ok hl
    obtain ⟨g, c, rfl, _, hg, hR⟩ := form_ownT hO (by simp)
    exact ⟨g, c, rfl, hg, hR⟩
theorem Lex_f (s : ByteArray) (hs : s.size ≤ 9223372036854775807) (w : World) (hE : EnvL w) :
    Calls Tryd.prog 9 #[.string s] w fun e w' => lexF (lexOf s.data.toList) e w' ∧ Fr [] w w' :=
  (Lex_any s hs w hE).mono fun _ _ h => ⟨lexF_of h.1, h.2⟩
theorem RLex_f (s : ByteArray) (hs : s.size ≤ 9223372036854775807) (w : World) (hE : EnvL w) :
    Calls Tryd.prog 10 #[.string s] w fun e w' => lexF (lexOf s.data.toList) e w' ∧ Fr [] w w' :=
  (RLex_any s hs w hE).mono fun _ _ h => ⟨lexF_of h.1, h.2⟩
theorem Lex_ok (s : ByteArray) (hs : s.size ≤ 9223372036854775807) {ts : List Tok} (h : lexOf s.data.toList = .ok ts) (w : World) (hE : EnvL w) :
    Calls Tryd.prog 9 #[.string s] w fun e w' => (∃ g c, e = .returned (.tuple #[.slice (some ⟨g, 0, none⟩) ts.length c, .int .i64 0, .int .i64 0]) ∧ g < w'.heap.size ∧ RT g ts w') ∧ Fr [] w w' :=
  (Lex_f s hs w hE).mono fun _ _ h' => by rw [h] at h'; exact h'
theorem Lex_er (s : ByteArray) (hs : s.size ≤ 9223372036854775807) {er : Int} {p : Nat} (h : lexOf s.data.toList = .error (er, p)) (w : World) (hE : EnvL w) :
    Calls Tryd.prog 9 #[.string s] w fun e w' => e = .returned (.tuple #[.slice none 0 0, .int .i64 er, .int .i64 p]) ∧ Fr [] w w' :=
  (Lex_f s hs w hE).mono fun _ _ h' => by rw [h] at h'; exact h'

set_option maxHeartbeats 1000000 in
set_option maxRecDepth 100000 in
theorem LexReads_walk (s : ByteArray) (hs : s.size ≤ 9223372036854775807) (w : World) (hE : EnvL w) :
    Calls Tryd.prog 3 #[.string s] w fun e w' => e = .returned (.bool true) ∧ Fr [] w w' := by
  have c1 := fun w hE => Lib.hid (Lex_f s hs w hE)
  have c2 := fun w hE => Lib.hid (RLex_f s hs w hE)
  have hlen : ∀ ts, lexOf s.data.toList = .ok ts → ts.length ≤ 1000000 := fun ts h => by have := (lexOf_ok h).2.2.1; omega
  cases hl : lexOf s.data.toList with
  | error x =>
    obtain ⟨er, p⟩ := x
    rw [hl] at c1 c2
    clear hl hlen
    go_enter Tryd.func3, Tryd.ntmps3
    go_wp2_with fail
    refine (awake5_any _ hE).mono ?_; rintro e w1 ⟨rfl, f1⟩; go_wp2_with fail
    refine (c1 _ (hE.fr f1)).out.mono ?_; rintro e w2 ⟨he, f2⟩; obtain rfl := (show e = _ from he); go_wp2_with fail
    refine (c2 _ ((hE.fr f1).fr f2)).out.mono ?_; rintro e w3 ⟨he, f3⟩; obtain rfl := (show e = _ from he); go_wp2_with fail
    refine (same_nil _).mono ?_; rintro e w4 ⟨rfl, f4⟩; go_wp2_with fail
    go_ret
    exact ⟨by simp, ((f1.trans f2).trans f3).trans f4⟩
  | ok ts =>
    have hl2 := hlen ts hl
    rw [hl] at c1 c2
    clear hl hlen
    go_enter Tryd.func3, Tryd.ntmps3
    go_wp2_with fail
    refine (awake5_any _ hE).mono ?_; rintro e w1 ⟨rfl, f1⟩; go_wp2_with fail
    refine (c1 _ (hE.fr f1)).out.mono ?_; rintro e w2 ⟨⟨g1, d1, rfl, hg1, hR1⟩, f2⟩; go_wp2_with fail
    refine (c2 _ ((hE.fr f1).fr f2)).out.mono ?_; rintro e w3 ⟨⟨g2, d2, rfl, hg2, hR2⟩, f3⟩; go_wp2_with fail
    refine (same_any _ _ ts _ _ hl2 _ (hR1.fr f3 hg1) hR2).mono ?_; rintro e w4 ⟨rfl, f4⟩; go_wp2_with fail
    go_ret
    exact ⟨rfl, ((f1.trans f2).trans f3).trans f4⟩

theorem backL_len {M : Nat} : ∀ (ts : List Tok), (∀ t ∈ ts, TokBd M t) → (backL ts).length ≤ ts.length * (M + 1)
  | [], _ => by simp [backL]
  | t :: ts, h => by
    have h1 := (h t (List.mem_cons_self ..)).l
    have h2 := backL_len ts (fun x hx => h x (List.mem_cons_of_mem _ hx))
    rw [backL_cons, List.length_append, List.length_cons, List.length_cons, Nat.succ_mul]
    omega
theorem backL_take (ts : List Tok) (k : Nat) (h : k < ts.length) : backL (ts.take (k + 1)) = backL (ts.take k) ++ (tokText ts[k].k ts[k].text ts[k].n ++ [32]) := by
  rw [List.take_succ_eq_append_getElem h, backL_app]; simp [backL]
theorem back_again {s : List UInt8} {ts : List Tok} (h : lexOf s = .ok ts) (hl : (backL ts).length ≤ 4096) : ∃ us, lexOf (backL ts) = .ok us ∧ us.map stripT = ts.map stripT := by
  obtain ⟨_, _, _, _, ys, rfl, hg⟩ := lexOf_ok h
  have e : backL (ys ++ [⟨0, s.length, [], 0⟩]) = backL ys ++ [32] := by rw [backL_app]; simp [backL, tokText]
  rw [e] at hl ⊢
  obtain ⟨us, h1, h2⟩ := lexL_back ys hg (backL ys ++ [32]).length 0 (Nat.le_refl _)
  exact ⟨us, by unfold lexOf; rw [if_neg (by omega), h1], by rw [h2, List.map_append]; rfl⟩

set_option maxHeartbeats 1000000 in
set_option maxRecDepth 100000 in
theorem LexBack_walk (s : ByteArray) (hs : s.size ≤ 9223372036854775807) (w : World) (hE : EnvL w) :
    Calls Tryd.prog 4 #[.string s] w fun e w' => e = .returned (.bool true) ∧ Fr [] w w' := by
  cases hl : lexOf s.data.toList with
  | error x =>
    obtain ⟨er, p⟩ := x
    have c1 := fun w hE => Lib.hid (Lex_er s hs hl w hE)
    have her : ¬ er = 0 := by rcases lexOf_err hl with h | h <;> omega
    clear hl
    go_enter Tryd.func4, Tryd.ntmps4
    go_wp2_with fail
    refine (awake5_any _ hE).mono ?_; rintro e w1 ⟨rfl, f1⟩; go_wp2_with fail
    refine (c1 _ (hE.fr f1)).out.mono ?_; rintro e w2 ⟨rfl, f2⟩; go_wp2_with fail
    go_ret
    exact ⟨rfl, f1.trans f2⟩
  | ok ts =>
    have c1 := fun w hE => Lib.hid (Lex_ok s hs hl w hE)
    have HB := Lib.hid (back_again hl)
    obtain ⟨_, _, hlen, hbd, _⟩ := lexOf_ok hl
    have hbl := backL_len ts hbd
    have HBD := Lib.hid hbd
    clear hl hbd
    go_enter Tryd.func4, Tryd.ntmps4
    go_wp2_with fail
    refine (awake5_any _ hE).mono ?_; rintro e w1 ⟨rfl, f1⟩; go_wp2_with fail
    refine (c1 _ (hE.fr f1)).out.mono ?_; rintro e w2 ⟨⟨g1, d1, rfl, hg1, hR1⟩, f2⟩; go_wp2_with fail
    have f12 := f1.trans f2
    clear f1 f2 c1
    go_loopw [6, 27] (fun x i wr => ∃ k : Nat, i = .int .i64 k ∧ k ≤ ts.length ∧ x = .string ⟨(backL (ts.take k)).toArray⟩ ∧ Fr [] w2 wr) (fun _ i _ => ts.length - (intOf i).toNat)
    case atStart => exact ⟨0, rfl, by omega, rfl, Fr.refl _ _⟩
    case round =>
      obtain ⟨k, rfl, hk, rfl, fr⟩ := hrel
      by_cases hlt : k < ts.length
      · have hR := hR1.fr fr hg1
        have ht : ts[k]? = some ts[k] := List.getElem?_eq_getElem hlt
        have a0 := hR.c0 k _ ht
        have a1 := hR.c1 k _ ht
        have a2 := hR.c2 k _ ht
        have a3 := hR.c3 k _ ht
        have hb := HBD.out _ (List.getElem_mem hlt)
        have hn := Lib.hid (backL_take ts k hlt)
        have hbk := backL_len (ts.take k) (fun t ht => HBD.out t (List.mem_of_mem_take ht))
        rw [List.length_take] at hbk
        have cT := fun w => Lib.hid (RText5_any ts[k] (by have := hb.n0; omega) (by have := hb.n1; omega) (by have := hb.x; omega) w)
        have hbl1 := hb.l
        have hb2 : (min k ts.length) * (4096 + 1) ≤ 4097 * 4097 := Nat.mul_le_mul (by omega) (by omega)
        clear ht hR hb
        generalize ts[k] = t at *
        obtain ⟨tk, ta, tt, tn⟩ := t
        simp only at a0 a1 a2 a3 hn hbl1 cT
        generalize tokText tk tt tn = X at *
        generalize hY : backL (ts.take k) = Y at *
        clear hY
        go_wp2_with fail
        refine (cT _).out.mono ?_; rintro e w3 ⟨rfl, f3⟩; go_wp2_with fail
        go_roundw
        case rel => exact ⟨k + 1, by go_num, by omega, by rw [hn.out]; simp [ByteArray.mk_append_mk], fr.trans f3⟩
        case measure => simp [intOf]; omega
      · have hke : ts.take k = ts := List.take_of_length_le (by omega)
        have hR := hR1.fr fr hg1
        have hg := Nat.lt_of_lt_of_le hg1 fr.size
        have hEr := (hE.fr f12).fr fr
        rw [hke]
        clear hke HBD
        have hzs : (ByteArray.mk (backL ts).toArray).size = (backL ts).length := rfl
        have hlt2 : ts.length * (4096 + 1) ≤ 4097 * 4097 := Nat.mul_le_mul (by omega) (by omega)
        by_cases hbig : (backL ts).length ≤ 4096
        · obtain ⟨us, hu, hstrip⟩ := HB.out hbig
          have c2 := fun w hE => Lib.hid (Lex_ok ⟨(backL ts).toArray⟩ (by rw [hzs]; omega) hu w hE)
          have hul : us.length = ts.length := by simpa using congrArg List.length hstrip
          have HS := Lib.hid hstrip
          clear hu hstrip hzs HB
          generalize backL ts = Z at *
          go_wp2_with fail
          refine (c2 _ hEr).out.mono ?_; rintro e w3 ⟨⟨g2, d2, rfl, hg2, hR2⟩, f3⟩
          rw [hul]
          have hR3 := hR.fr f3 hg
          clear hR
          go_wp2_with fail
          go_loopw [61] (fun i wr' => ∃ k : Nat, i = .int .i64 k ∧ k ≤ ts.length ∧ ∃ n, wr' = w3.drewN n) (fun i _ => ts.length - (intOf i).toNat)
          case atStart => exact ⟨0, rfl, by omega, 0, rfl⟩
          case round =>
            obtain ⟨k, rfl, hk, nd, rfl⟩ := hrel
            by_cases hlt : k < ts.length
            · have ht : ts[k]? = some ts[k] := List.getElem?_eq_getElem hlt
              have hu : us[k]? = some us[k] := List.getElem?_eq_getElem (by omega)
              have hst : stripT us[k] = stripT ts[k] := by
                have := congrArg (fun l : List (Int × List UInt8 × Int) => l[k]?) HS.out
                simp only [List.getElem?_map, ht, hu, Option.map_some, Option.some.injEq] at this
                exact this
              have a0 := hR3.c0 k _ ht
              have a2 := hR3.c2 k _ ht
              have a3 := hR3.c3 k _ ht
              have b0 := hR2.c0 k _ hu
              have b2 := hR2.c2 k _ hu
              have b3 := hR2.c3 k _ hu
              simp only [stripT, Prod.mk.injEq] at hst
              rw [hst.1] at b0
              rw [hst.2.1] at b2
              rw [hst.2.2] at b3
              clear ht hu hst
              generalize ts[k] = t at *
              obtain ⟨tk, ta, tt, tn⟩ := t
              simp only at a0 a2 a3 b0 b2 b3
              go_wp2_with fail
              go_quiet (fail)
              go_wp2_with fail
              go_roundw
              case rel => exact ⟨k + 1, by go_num, by omega, _, rfl⟩
              case measure => simp [intOf]; omega
            · go_wp2_with fail
              go_ret
              exact ⟨rfl, ((f12.trans fr).trans f3).drewN _⟩
        · have he : lexOf (ByteArray.mk (backL ts).toArray).data.toList = .error (4, 0) := by
            show lexOf (backL ts) = _
            unfold lexOf
            rw [if_pos (by omega)]
          have c2 := fun w hE => Lib.hid (Lex_er ⟨(backL ts).toArray⟩ (by rw [hzs]; omega) he w hE)
          clear he hzs HB
          generalize backL ts = Z at *
          go_wp2_with fail
          refine (c2 _ hEr).out.mono ?_; rintro e w3 ⟨rfl, f3⟩; go_wp2_with fail
          go_ret
          exact ⟨rfl, (f12.trans fr).trans f3⟩
end Go.Proofs.YteffobcelgbiiaaDoor
