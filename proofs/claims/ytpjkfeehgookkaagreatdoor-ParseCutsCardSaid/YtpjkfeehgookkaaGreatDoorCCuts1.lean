/- Where a text is wrong, what stands ahead of that place is right as far as it goes: proved for every input. -/
import Derived.Lib.ConvBytes
import Derived.Test.YtpjkfeehgookkaaGreatDoorCb6
namespace Go.Proofs.YtpjkfeehgookkaaGreatDoor
open Go.RowKit
theorem BI.frame {w : World} {b : Nat} {r : Option (Nat × Obj)} {l : List UInt8} {wr : World} (h : BI w b r l wr) : Fr [] w wr := by
 obtain ⟨own, _, _, _, hf, _⟩ := h
 exact hf
end Go.Proofs.YtpjkfeehgookkaaGreatDoor
namespace Go.Proofs.YtpjkfeehgookkaaGreatDoor
open Go.RowKit
theorem runL_cut {l : List UInt8} {M : Nat} (h : (runL l).length ≤ M) : runL (l.take M) = runL l := by
 induction l generalizing M with
 | nil => simp [runL]
 | cons c r ih =>
  by_cases hc : bodyB c = true
  ·rw [runL_cons r hc] at h ⊢
   rw [List.length_cons] at h
   obtain ⟨M', rfl⟩ : ∃ M', M = M' + 1 := ⟨M - 1, by omega⟩
   rw [List.take_succ_cons, runL_cons _ hc, ih (by omega)]
  ·have e : ∀ r, runL (c :: r) = [] := fun r => List.takeWhile_cons_of_neg hc
   rw [e]
   cases M with
   | zero => rfl
   | succ M => rw [List.take_succ_cons, e]
theorem q2_cut {odd : Bool} {r : List UInt8} {k : Nat} (h : q2 odd r = some k) {j : Nat} (hj : k ≤ j) : q2 odd (r.take j) = some k := by
 induction r generalizing odd k j with
 | nil => simp [q2] at h
 | cons c r ih =>
  rw [q2] at h
  split at h
  ·rename_i hc
   cases h
   obtain ⟨j', rfl⟩ : ∃ j', j = j' + 1 := ⟨j - 1, by omega⟩
   rw [List.take_succ_cons, q2, if_pos hc]
  ·rename_i hc
   cases hq : q2 (c == 92 && !odd) r with
   | none => rw [hq] at h; cases h
   | some k' =>
    rw [hq] at h
    simp at h
    obtain ⟨j', rfl⟩ : ∃ j', j = j' + 1 := ⟨j - 1, by omega⟩
    rw [List.take_succ_cons, q2, if_neg hc, ih hq (by omega)]
    simp [h]
theorem find_cut {l : List UInt8} {M : Nat} {x : List UInt8} : ∀ {L : List (List UInt8)}, L.find? (fun x => x.isPrefixOf l) = some x → x.length ≤ M → L.find? (fun x => x.isPrefixOf (l.take M)) = some x
 | [], h, _ => by simp at h
 | y :: L, h, hM => by
  rw [List.find?_cons] at h ⊢
  cases hy : y.isPrefixOf l with
  | true =>
   rw [hy] at h
   cases h
   have hp := List.isPrefixOf_iff_prefix.1 hy
   have : x.isPrefixOf (l.take M) = true := List.isPrefixOf_iff_prefix.2 (List.prefix_take_iff.2 ⟨hp, hM⟩)
   rw [this]
  | false =>
   rw [hy] at h
   have : y.isPrefixOf (l.take M) = false := by
    rw [Bool.eq_false_iff]
    intro hp
    have := List.isPrefixOf_iff_prefix.2 ((List.isPrefixOf_iff_prefix.1 hp).trans (List.take_prefix M l))
    rw [hy] at this
    cases this
   rw [this]
   exact find_cut h hM
theorem tok_cut {l : List UInt8} {k : Int} {t : List UInt8} {n : Int} {m : Nat} (h : tok l = .ok (k, t, n, m)) {M : Nat} (hM : m ≤ M) : tok (l.take M) = .ok (k, t, n, m) := by
 have hm := (tok_len h).1
 cases l with
 | nil => cases h
 | cons c r =>
  obtain ⟨M', rfl⟩ : ∃ M', M = M' + 1 := ⟨M - 1, by omega⟩
  rw [List.take_succ_cons]
  unfold tok at h ⊢
  simp only at h ⊢
  have hc : ∀ {j}, (runL (c :: r)).length ≤ j + 1 → runL (c :: r.take j) = runL (c :: r) := fun hj => by have := runL_cut hj; rwa [List.take_succ_cons] at this
  by_cases h1 : smallB c = true
  ·rw [if_pos h1] at h ⊢
   have hl : (runL (c :: r)).length = m := by simp only [Except.ok.injEq, Prod.mk.injEq] at h; exact h.2.2.2
   rw [hc (by omega)]
   exact h
  ·rw [if_neg h1] at h ⊢
   by_cases h2 : greatB c = true
   ·rw [if_pos h2] at h ⊢
    have hl : (runL (c :: r)).length = m := by simp only [Except.ok.injEq, Prod.mk.injEq] at h; exact h.2.2.2
    rw [hc (by omega)]
    exact h
   ·rw [if_neg h2] at h ⊢
    by_cases h3 : c = 35 ∧ r.head?.any greatB = true
    ·rw [if_pos h3] at h
     have hl : 1 + (runL r).length = m := by simp only [Except.ok.injEq, Prod.mk.injEq] at h; exact h.2.2.2
     have h4 : c = 35 ∧ (r.take M').head?.any greatB = true := by
      refine ⟨h3.1, ?_⟩
      cases r with
      | nil => rw [List.take_nil]; exact h3.2
      | cons d r =>
       have hd : greatB d = true := h3.2
       have hb : bodyB d = true := by unfold bodyB; rw [hd]; simp
       have := runL_pos (r := r) hb
       obtain ⟨M'', rfl⟩ : ∃ M'', M' = M'' + 1 := ⟨M' - 1, by omega⟩
       rw [List.take_succ_cons]
       exact hd
     rw [if_pos h4, runL_cut (by omega)]
     exact h
    ·have h4 : ¬ (c = 35 ∧ (r.take M').head?.any greatB = true) := by
      rintro ⟨e, hh⟩
      refine h3 ⟨e, ?_⟩
      cases r with
      | nil => simp at hh
      | cons d r =>
       cases M' with
       | zero => simp at hh
       | succ M'' => exact hh
     rw [if_neg h3] at h
     rw [if_neg h4]
     by_cases h5 : isDig c = true
     ·rw [if_pos h5] at h ⊢
      split at h
      ·rename_i hr
       have hl : (runL (c :: r)).length = m := by simp only [Except.ok.injEq, Prod.mk.injEq] at h; exact h.2.2.2
       rw [hc (by omega), if_pos hr]
       exact h
      ·cases h
     ·rw [if_neg h5] at h ⊢
      by_cases h6 : c = 34
      ·rw [if_pos h6] at h ⊢
       cases hq : qlen r with
       | none => rw [hq] at h; cases h
       | some j =>
        rw [hq] at h
        simp only at h
        cases hu : unq ((c :: r).take (1 + j)) with
        | none => rw [hu] at h; cases h
        | some u =>
         rw [hu] at h
         simp only [Except.ok.injEq, Prod.mk.injEq] at h
         have hq2 : qlen (r.take M') = some j := q2_cut hq (by omega)
         have e : (c :: r.take M').take (1 + j) = (c :: r).take (1 + j) := by
          rw [Nat.add_comm 1 j, List.take_succ_cons, List.take_succ_cons, List.take_take, Nat.min_eq_left (by omega)]
         rw [hq2]
         simp only
         rw [e, hu]
         simp only [Except.ok.injEq, Prod.mk.injEq]
         exact h
      ·rw [if_neg h6] at h ⊢
       cases hf : signsL.find? (fun x => x.isPrefixOf (c :: r)) with
       | none => rw [hf] at h; cases h
       | some x =>
        rw [hf] at h
        simp only [Except.ok.injEq, Prod.mk.injEq] at h
        have := find_cut (M := M' + 1) hf (by omega)
        rw [List.take_succ_cons] at this
        rw [this]
        simp only [Except.ok.injEq, Prod.mk.injEq]
        exact h
theorem lexL_cut {f a : Nat} {l : List UInt8} {ts : List Tok} (h : lexL f a l = .ok ts) : ∀ (i : Nat) (t : Tok), ts[i]? = some t → a ≤ t.at' ∧ t.at' ≤ a + l.length ∧ ∀ g, l.length ≤ g → lexL g a (l.take (t.at' - a)) = .ok (ts.take i ++ [⟨0, t.at', [], 0⟩]) := by
 refine lexL_ind (P := fun a l ts => ∀ (i : Nat) (t : Tok), ts[i]? = some t → a ≤ t.at' ∧ t.at' ≤ a + l.length ∧ ∀ g, l.length ≤ g → lexL g a (l.take (t.at' - a)) = .ok (ts.take i ++ [⟨0, t.at', [], 0⟩])) ?_ ?_ ?_ f a l ts h
 ·intro a i t ht
  cases i with
  | zero =>
   simp at ht
   subst ht
   exact ⟨Nat.le_refl _, Nat.le_refl _, fun g _ => by simp [lexL_nil]⟩
  | succ i => simp at ht
 ·intro a c r ts hb ih i t ht
  obtain ⟨h1, h2, h3⟩ := ih i t ht
  refine ⟨by omega, by rw [List.length_cons]; omega, fun g hg => ?_⟩
  rw [List.length_cons] at hg
  obtain ⟨g', rfl⟩ : ∃ g', g = g' + 1 := ⟨g - 1, by omega⟩
  rw [show t.at' - a = (t.at' - (a + 1)) + 1 by omega, List.take_succ_cons, lexL_blank _ _ _ hb, h3 g' (by omega)]
 ·intro a c r k t n m ts hb ht ih i u hu
  have hm := tok_len ht
  cases i with
  | zero =>
   simp at hu
   subst hu
   exact ⟨Nat.le_refl _, by simp, fun g _ => by simp [lexL_nil]⟩
  | succ i =>
   have hu : ts[i]? = some u := by simpa using hu
   obtain ⟨h1, h2, h3⟩ := ih i u hu
   rw [List.length_drop] at h2 h3
   refine ⟨by omega, by omega, fun g hg => ?_⟩
   rw [List.length_cons] at hg hm
   obtain ⟨g', rfl⟩ : ∃ g', g = g' + 1 := ⟨g - 1, by omega⟩
   have hc := tok_cut ht (M := u.at' - a) (by omega)
   obtain ⟨q, hq⟩ : ∃ q, u.at' - a = q + 1 := ⟨u.at' - a - 1, by omega⟩
   rw [hq, List.take_succ_cons] at hc ⊢
   rw [lexL_tok _ _ _ hb, hc]
   simp only
   rw [← List.take_succ_cons, List.drop_take, show q + 1 - m = u.at' - (a + m) by omega, h3 g' (by rw [List.length_cons]; omega)]
   rfl
end Go.Proofs.YtpjkfeehgookkaaGreatDoor
namespace Go.Proofs.YtpjkfeehgookkaaGreatDoor
open Go.RowKit
attribute [local go_sem ↓] Go.wp_at_zero Go.wp_at_succ
theorem PR.errs {s : List UInt8} {x : ExprT} {er p : Int} (h : PR s x er p) : er = 0 ∨ er = 20 ∨ er = 2 ∨ er = 4 ∨ er = 22 ∨ er = 3 ∨ er = 21 := by
 cases h with
 | lexErr h => rcases lexOf_err h with ⟨_, h, _⟩ | ⟨_, _, h | h, _⟩ <;> omega
 | syn => omega
 | many => omega
 | deep => omega
 | ok => omega
theorem cut_pr {s : List UInt8} {x : ExprT} {p : Int} (h : PR s x 21 p) : ∃ m : Nat, p = m ∧ m ≤ s.length ∧ ∀ {x2 : ExprT} {er2 p2 : Int}, PR (s.take m) x2 er2 p2 → er2 = 0 ∨ er2 = 22 ∨ er2 = 3 ∨ (er2 = 21 ∧ p2 = p) := by
 cases h with
 | lexErr h => rcases lexOf_err h with ⟨_, h, _⟩ | ⟨_, _, h, _⟩ <;> omega
 | @syn ts x st' t hl hr ht hbad =>
  obtain ⟨hs, hq, _, _, _⟩ := lexOf_ok hl
  obtain ⟨_, h2, h3⟩ := lexL_cut hq st'.i t ht
  have hm : t.at' ≤ s.length := by omega
  refine ⟨t.at', rfl, hm, fun {x2 er2 p2} h4 => ?_⟩
  have h3 := h3 s.length (Nat.le_refl _)
  rw [Nat.sub_zero] at h3
  have hl2 : lexOf (s.take t.at') = .ok (ts.take st'.i ++ [⟨0, t.at', [], 0⟩]) := by
   unfold lexOf
   rw [if_neg (by rw [List.length_take]; omega), ← h3]
   exact lexL_fuel s.length _ _ 0 _ (by rw [List.length_take]; omega) (Nat.le_refl _) (by rw [List.length_take]; omega)
  have hi := (List.getElem?_eq_some_iff.1 ht).1
  have hlen : (ts.take st'.i).length = st'.i := by rw [List.length_take]; omega
  have hE := endsT_of (endOk_of hl)
  have hE2 := endsT_of (endOk_of hl2)
  have key : ∀ {x' : ExprT} {st2 : St} {t2 : Tok}, Run (ts.take st'.i ++ [⟨0, t.at', [], 0⟩]) (body .seq) ⟨0, true⟩ (.e x') st2 → (ts.take st'.i ++ [(⟨0, t.at', [], 0⟩ : Tok)])[st2.i]? = some t2 → t2.at' = t.at' := fun {x' st2 t2} hr2 ht2 => by
   have hlt := (List.getElem?_eq_some_iff.1 ht2).1
   rw [List.length_append, List.length_singleton, hlen] at hlt
   by_cases e : st2.i < st'.i
   ·have hsame : ∀ j, j ≤ st2.i → ts[j]? = (ts.take st'.i ++ [(⟨0, t.at', [], 0⟩ : Tok)])[j]? := fun j hj => by
     rw [List.getElem?_append_left (by omega), List.getElem?_take_of_lt (by omega)]
    obtain ⟨e2, _⟩ := hr2.lock hE2 hE (saneE .seq) (Kn.none_ _ _) hsame hr
    rw [e2] at e
    omega
   ·have e : st2.i = st'.i := by omega
    rw [e, List.getElem?_append_right (by omega), hlen, Nat.sub_self] at ht2
    simp at ht2
    rw [← ht2]
  cases h4 with
  | lexErr h => rw [hl2] at h; cases h
  | syn hl3 hr3 ht3 hb3 => rw [hl2] at hl3; cases hl3; rw [key hr3 ht3]; exact .inr (.inr (.inr ⟨rfl, rfl⟩))
  | many => exact .inr (.inr (.inl rfl))
  | deep => exact .inr (.inl rfl)
  | ok => exact .inl rfl
theorem take6 (s : ByteArray) (m : Nat) (h : m ≤ s.size) : (s.extract 0 m).data.toList = s.data.toList.take m := by
 simp
set_option maxHeartbeats 4000000 in
set_option maxRecDepth 100000 in
theorem ParseCuts_walk (a : ByteArray) (ha : a.size ≤ 140737488355328) (w : World) (hE : EnvL w) :
  Calls Tryz.prog 7 #[.string a] w fun e w' => e = .returned (.bool true) ∧ Fr [] w w' := by
 have HE := Lib.hid hE
 have cA := fun w hE => Lib.hid (awake6_any w hE)
 have c1 := fun w hE => Lib.hid (Parse_any a (by omega) w hE)
 have c2 := fun m w hE => Lib.hid (Parse_any (a.extract 0 m) (by rw [ByteArray.size_extract]; omega) w hE)
 have hza : (a.size : Int) ≤ 140737488355328 := by omega
 clear hE
 go_enter Tryz.func7, Tryz.ntmps7
 go_wp2_with fail
 refine (cA _ HE.out).out.mono ?_; rintro e w1 ⟨rfl, f1⟩; go_wp2_with fail
 refine (c1 _ (HE.out.fr f1)).out.mono ?_
 rintro e w2 ⟨k1, a1, nm1, n1, s1, ls1, args1, arms1, A51, n51, c51, A61, n61, c61, A71, n71, c71, er1, at1, rfl, _, hpr, f2⟩
 have f3 := (f1.trans f2).alloc (.cells #[.int .i64 k1, .int .i64 a1, .string ⟨nm1.toArray⟩, .int .i64 n1, .string ⟨s1.toArray⟩, .slice A51 n51 c51, .slice A61 n61 c61, .slice A71 n71 c71] 27)
 rcases hpr.errs with rfl | rfl | rfl | rfl | rfl | rfl | rfl
 iterate 6
  ·go_wp2_with fail
   go_ret
   exact ⟨rfl, f3⟩
 ·obtain ⟨m, rfl, hm, hcut⟩ := cut_pr hpr
  rw [size_list] at hm
  have HC : Hid (∀ {x2 : ExprT} {er2 p2 : Int}, PR (a.data.toList.take m) x2 er2 p2 → er2 = 0 ∨ er2 = 22 ∨ er2 = 3 ∨ (er2 = 21 ∧ p2 = m)) := Lib.hid hcut
  clear hcut hpr
  have hm0 : (0 : Int) ≤ (m : Int) := by omega
  have hm1 : (m : Int) ≤ (a.size : Int) := by omega
  go_wp2_with fail
  refine (c2 m _ (HE.out.fr f3)).out.mono ?_
  rintro e w4 ⟨k2, a2, nm2, n2, s2, ls2, args2, arms2, A52, n52, c52, A62, n62, c62, A72, n72, c72, er2, at2, rfl, _, hpr2, f4⟩
  rw [take6 a m hm] at hpr2
  have f5 := (f3.trans f4).alloc (.cells #[.int .i64 k2, .int .i64 a2, .string ⟨nm2.toArray⟩, .int .i64 n2, .string ⟨s2.toArray⟩, .slice A52 n52 c52, .slice A62 n62 c62, .slice A72 n72 c72] 27)
  rcases HC.out hpr2 with rfl | rfl | rfl | ⟨rfl, rfl⟩
  iterate 4
   ·go_wp2_with fail
    go_ret
    exact ⟨rfl, f5⟩
end Go.Proofs.YtpjkfeehgookkaaGreatDoor
namespace Go.Proofs.YtpjkfeehgookkaaGreatDoor
open Go.ChangeShapes Go.WideShapes Go.ChangeAt Go.ChangeMaps Go.RowKit
section
theorem parseCuts_reads (os : Os) {H : Type} (enc : TypeId × Value → H) : ∃ places, DataW.whole enc Tryz.prog ((doorW os).forCall (fun _ _ => 0) ⟨#[], #[.string ⟨#[]⟩], []⟩).memory Tryz.f7.params.toList Rows.parseCutsSpec.vars false (#[.string ⟨#[]⟩] : Array Value).toList 8 = some ([.lit (.string [])], [], places) :=
 ⟨[], by kernel_rfl⟩
set_option maxRecDepth 100000 in
theorem parseCuts_contract (H : Type) (enc : TypeId × Value → H) (W : World) (base : Nat) (args : Array Value) (ds gs : List (DataW H)) (before : List MemPlace)
  (hval : ∀ (j : Nat) t v, Tryz.f7.params[j]? = some t → args[j]? = some v → Value.okWide Tryz.prog W .any base t v)
  (hW : DataW.Whole enc Tryz.prog Tryz.f7.params.toList Rows.parseCutsSpec.vars false W args.toList ds gs before) (hsz : (DataW.weightsEach Tryz.prog (Tryz.f7.params.toList ++ Rows.parseCutsSpec.plain.varTypes Tryz.prog) (ds ++ gs)).all (· ≤ reachBytes) = true) (hL : laidMetH Tryz.prog Rows.parseCutsRow.laid W) (hS : W.ShapedOpen Tryz.prog) :
  Calls Tryz.prog 7 args W fun e W' => ∃ v, e = .returned v ∧ Rows.parseCutsSpec.post enc Tryz.prog Tryz.f7 false true false false W args v W' := by
 have hE := env_of hL hS
 have hW' := hW
 obtain ⟨p, q, hA0, hV, rfl, hfz, hnd⟩ := hW
 have hA : DataW.TrodAll enc Tryz.prog W 0 (fun _ => true) true Tryz.f7.params.toList args.toList ds p := hA0
 rw [Tryz.params7] at hA hval hsz
 obtain ⟨v0, vs0, d0, ds0, p0, q0, hargs, rfl, rfl, t0, r0⟩ := trodAll_cons hA
 obtain ⟨rfl, rfl, rfl⟩ := trodAll_nil r0
 obtain rfl : args = #[v0] := by cases args; simp_all
 obtain ⟨rfl, rfl⟩ := trodVars_none hV
 obtain ⟨a, rfl, rfl, rfl, ha⟩ := open_string Tryz.underlying9 (hval 0 9 v0 rfl rfl) t0
 have za : a.size ≤ 140737488351232 := sized_string hsz (j := 0) (t := 9) (bytes := a.data.toList) rfl rfl
 clear hA0
 simp only [List.append_nil] at hW'
 refine (ParseCuts_walk a (by omega) W hE).mono fun e W' ⟨he, hf⟩ => ?_
 subst he
 refine ⟨_, rfl, _, _, _, [], [], [], hW', ?_, ?_, rfl, hf.below0.frame _, fun h => by cases h⟩
 ·exact trodAll_cons_mk (shut_bool Tryz.underlying4 _) trodAll_mk0
 ·exact trodAll_cons_mk (shut_string Tryz.underlying9 ha) trodAll_mk0
set_option maxRecDepth 100000 in
theorem parseCuts_lifted (os : Os) (started : os.Started) (H : Type) (enc : TypeId × Value → H) (F : Stop.Interp) :
  ReturnsInHanded {} Tryz.checked os 7 .any ((OpenSpec.ofChange Rows.parseCutsSpec).preRow enc Tryz.prog Tryz.f7 Rows.parseCutsRow.domain false Rows.parseCutsRow.laid) (((OpenSpec.ofChange Rows.parseCutsSpec).at F).post enc Tryz.prog Tryz.f7 false true false false) := by
 obtain ⟨places, hx⟩ := parseCuts_reads os enc
 refine returnsInHanded_of_row (C := Tryz.checked) (s := OpenSpec.ofChange Rows.parseCutsSpec) own started (by kernel_rfl) Tryz.func7
  (witness_row_atRef (enc := enc) (C := Tryz.checked) false (doorW os) #[.string ⟨#[]⟩] rfl (by kernel_rfl) (by kernel_rfl) (by kernel_rfl)
   (OpenSpec.preRow_of_cond 8 hx (by kernel_rfl) (fun k hk => by cases hk) (by kernel_rfl) (laid_met os _))) ?_
 intro W base args ds gs before hval hW _ _ hsz hL hS _
 exact parseCuts_contract H enc W base args ds gs before hval hW hsz hL hS
theorem parseCuts_said : Rows.ParseCutsSaid :=
 OpenClaim.holds_of_cond 7 Tryz.f7 rfl rfl rfl rfl rfl rfl rfl ⟨rfl, rfl, rfl, rfl, rfl⟩ rfl rfl rfl rfl rfl (by kernel_rfl) Tryz.func7 (by kernel_rfl)
  (of_decide_eq_true (by kernel_rfl)) (by unfold Func.isWrapper; first | (rw [if_pos (by decide +kernel)]; kernel_rfl) | (rw [if_neg (by decide +kernel)]; exact ⟨rfl, rfl⟩))
  (fun os started H enc _ F => by rw [OpenClaim.pre_eq_preRow]; exact parseCuts_lifted os started H enc F)
theorem parseCuts_plain (f : FuncId) (fn : Func) (hf : Tryz.pinned.checked.prog.funcNamed "marquetry/marquetrylaw06.ParseCuts" = some f) (hfn : Tryz.pinned.checked.prog.funcs[f]? = some fn) :
  true = Tryz.pinned.checked.prog.looks [] ∧ ∀ (j : Nat) t, fn.params[j]? = some t → Tryz.pinned.checked.prog.wantsStandIn t = false := by
 obtain rfl : f = 7 := Option.some.inj ((show Tryz.prog.funcNamed "marquetry/marquetrylaw06.ParseCuts" = some 7 by kernel_rfl).symm.trans hf) |>.symm
 obtain rfl : fn = Tryz.f7 := (Option.some.inj (Tryz.func7.symm.trans hfn)).symm
 refine ⟨by kernel_rfl, fun j t ht => ?_⟩
 rw [Tryz.params7] at ht
 have hm : t ∈ [9] := by simpa using Array.mem_of_getElem? ht
 have hall : ([9].all fun u => !Tryz.prog.wantsStandIn u) = true := by kernel_rfl
 exact (show Tryz.prog.wantsStandIn t = false by simpa using List.all_eq_true.1 hall t hm)
theorem parseCuts_card : Rows.ParseCutsCardSaid :=
 Claim7.holds_tied_plain_at .later [] _ _ _ _ parseCuts_said (fun _ h => by cases h) (by kernel_rfl) (fun _ h => by cases h) parseCuts_row_tie rfl ⟨rfl, rfl⟩ (by kernel_rfl) rfl parseCuts_plain (by kernel_rfl)
end
end Go.Proofs.YtpjkfeehgookkaaGreatDoor
