/- Layer 5, walks: the program's list of tokens, and the reference's. -/
import Derived.Test.YteffobcelgbiiaaDoorL9
import Derived.Test.YteffobcelgbiiaaDoorLr
namespace Go.Proofs.YteffobcelgbiiaaDoor
open Go.RowKit

def tokCells (t : Tok) : List Value := [.int .i64 t.k, .int .i64 t.at', .string ⟨t.text.toArray⟩, .int .i64 t.n]
def toksC (ts : List Tok) : List Value := ts.flatMap tokCells
theorem toksC_snoc (ts : List Tok) (t : Tok) : toksC (ts ++ [t]) = toksC ts ++ tokCells t := by simp [toksC]
/-- a slice that the call made reads as these tokens -/
def OwnT (B : Nat) (v : Value) (ts : List Tok) (w : World) : Prop := w.ownsRow 0 31 4 v ts.length (toksC ts) ∧ ∀ g, v.ownBlock = some g → B ≤ g
theorem OwnT.fr {B : Nat} {v : Value} {ts : List Tok} {w w' : World} (h : OwnT B v ts w) (hf : Fr [] w w') : OwnT B v ts w' := ⟨ownsRow_fr h.1 hf (fun _ _ h => by cases h), h.2⟩
theorem OwnT.nil_ (B : Nat) (w : World) : OwnT B (.slice none 0 0) [] w := ⟨⟨by simp [toksC], .inl ⟨rfl, rfl⟩⟩, fun g hg => by simp [Value.ownBlock] at hg⟩
theorem OwnT.none (w : World) : OwnT w.heap.size (.slice (some ⟨w.heap.size, 0, none⟩) 0 0) [] (w.alloc (.cells #[] 31)) :=
  ⟨World.ownsRow_lit w #[] 0 (Nat.zero_le _) (by decide) rfl, fun g hg => by simp [Value.ownBlock] at hg; omega⟩
theorem infoTok : (Tryd.prog.info? 31).map (fun i => (i.zero, i.size, i.bytes)) = some (some (.agg #[.int .i64 0, .int .i64 0, .string ⟨#[]⟩, .int .i64 0]), 4, 40) := by kernel_rfl
theorem tok_news (w : World) (b : Nat) (a0 a1 a2 a3 : Value) (T : TypeId) (h : w.heap[b]? = some (.cells #[a0, a1, a2, a3] T (0, 0))) : ∀ (j : Nat) (u : Value), [a0, a1, a2, a3][j]? = some u → w.cell? ((⟨b, 0, Option.none⟩ : Addr).add j) = some u := by
  intro j u hj
  have hc := cell_of h
  match j, hj with
  | 0, hj => rw [show (⟨b, 0, Option.none⟩ : Addr).add 0 = ⟨b, 0, Option.none⟩ by simp [Addr.add], hc]; simpa using hj
  | 1, hj => rw [show (⟨b, 0, Option.none⟩ : Addr).add 1 = ⟨b, 1, Option.none⟩ by simp [Addr.add], hc]; simpa using hj
  | 2, hj => rw [show (⟨b, 0, Option.none⟩ : Addr).add 2 = ⟨b, 2, Option.none⟩ by simp [Addr.add], hc]; simpa using hj
  | 3, hj => rw [show (⟨b, 0, Option.none⟩ : Addr).add 3 = ⟨b, 3, Option.none⟩ by simp [Addr.add], hc]; simpa using hj
  | j + 4, hj => simp at hj
def lexOk (r : Except (Int × Nat) (List Tok)) (B : Nat) (e : Ending) (w' : World) : Prop := match r with
  | .error (er, p) => e = .returned (.tuple #[.slice none 0 0, .int .i64 er, .int .i64 p])
  | .ok ts => ∃ v, e = .returned (.tuple #[v, .int .i64 0, .int .i64 0]) ∧ OwnT B v ts w'

/-! ### what is still to be read from a place on -/
def restL (s : ByteArray) (i : Nat) : Except (Int × Nat) (List Tok) := lexL s.size i (s.data.toList.drop i)
def withL (ts : List Tok) : Except (Int × Nat) (List Tok) → Except (Int × Nat) (List Tok)
  | .error e => .error e
  | .ok ys => .ok (ts ++ ys)
theorem restL_zero (s : ByteArray) (h : s.size ≤ 4096) : lexOf s.data.toList = restL s 0 := by
  unfold lexOf restL; rw [if_neg (by rw [size_list]; omega), List.drop_zero, size_list]
theorem restL_end (s : ByteArray) : restL s s.size = .ok [⟨0, s.size, [], 0⟩] := by
  unfold restL; rw [List.drop_of_length_le (by rw [size_list]; exact Nat.le_refl _)]; cases s.size <;> rfl
theorem restL_blank (s : ByteArray) (i : Nat) (h : i < s.size) (hc : s[i] = 32 ∨ s[i] = 10) : restL s i = restL s (i + 1) := by
  unfold restL
  rw [drop_cons s i h]
  obtain ⟨f, hf⟩ : ∃ f, s.size = f + 1 := ⟨s.size - 1, by omega⟩
  rw [lexL_fuel s.size s.size (f + 1) (i + 1) (s.data.toList.drop (i + 1)) (by rw [drop_len]; omega) (by rw [drop_len]; omega) (by rw [drop_len]; omega), lexL_fuel s.size (f + 1) f (i + 1) (s.data.toList.drop (i + 1)) (by rw [drop_len]; omega) (by rw [drop_len]; omega) (by rw [drop_len]; omega), hf, lexL, if_pos hc]
theorem restL_err (s : ByteArray) (i : Nat) (h : i < s.size) (hc : ¬ (s[i] = 32 ∨ s[i] = 10)) {e : Int} (ht : tok (s.data.toList.drop i) = .error e) : restL s i = .error (e, i) := by
  unfold restL
  rw [drop_cons s i h] at ht ⊢
  obtain ⟨f, hf⟩ : ∃ f, s.size = f + 1 := ⟨s.size - 1, by omega⟩
  rw [hf, lexL, if_neg hc, ht]
theorem restL_tok (s : ByteArray) (i : Nat) (h : i < s.size) (hc : ¬ (s[i] = 32 ∨ s[i] = 10)) {k : Int} {t : List UInt8} {n : Int} {m : Nat} (ht : tok (s.data.toList.drop i) = .ok (k, t, n, m)) (ts : List Tok) :
    withL ts (restL s i) = withL (ts ++ [⟨k, i, t, n⟩]) (restL s (i + m)) := by
  have hm := tok_len ht
  rw [drop_len] at hm
  have e2 : restL s (i + m) = lexL (s.size - 1) (i + m) (s.data.toList.drop (i + m)) := by
    unfold restL
    exact lexL_fuel s.size _ _ _ _ (by rw [drop_len]; omega) (by rw [drop_len]; omega) (by rw [drop_len]; omega)
  rw [e2]
  unfold restL
  have hd : (s.data.toList.drop i).drop m = s.data.toList.drop (i + m) := by rw [List.drop_drop]
  rw [drop_cons s i h] at ht hd ⊢
  obtain ⟨f, hf⟩ : ∃ f, s.size = f + 1 := ⟨s.size - 1, by omega⟩
  rw [show lexL s.size i = lexL (f + 1) i by rw [hf], lexL, if_neg hc, ht]
  simp only [hd]
  rw [show s.size - 1 = f by omega]
  cases lexL f (i + m) (s.data.toList.drop (i + m)) with
  | error e => rfl
  | ok ys => simp [withL]
theorem withL_nil (r : Except (Int × Nat) (List Tok)) : withL [] r = r := by cases r <;> rfl

set_option maxHeartbeats 1000000 in
set_option maxRecDepth 100000 in
theorem Lex_big (s : ByteArray) (hs : s.size ≤ 9223372036854775807) (hb : 4096 < s.size) (w : World) :
    Calls Tryd.prog 9 #[.string s] w fun e w' => lexOk (lexOf s.data.toList) w.heap.size e w' ∧ Fr [] w w' := by
  have h0 : lexOf s.data.toList = .error (4, 0) := by unfold lexOf; rw [if_pos (by rw [size_list]; exact hb)]
  rw [h0]
  go_enter Tryd.func9, Tryd.ntmps9
  go_wp2_with fail
  go_ret3
  exact ⟨rfl, Fr.refl _ _⟩

set_option maxHeartbeats 1000000 in
set_option maxRecDepth 100000 in
theorem Lex_small (s : ByteArray) (hs : s.size ≤ 4096) (w : World) (hE : EnvL w) :
    Calls Tryd.prog 9 #[.string s] w fun e w' => lexOk (lexOf s.data.toList) w.heap.size e w' ∧ Fr [] w w' := by
  obtain ⟨i0, hi, hz0, hz1, hz2⟩ := info_parts infoTok
  have H0 := Lib.hid ((withL_nil _).symm.trans (congrArg (withL []) (restL_zero s hs)).symm).symm
  have HA : Hid (withL [] (restL s 0) = lexOf s.data.toList) := Lib.hid (by rw [withL_nil, restL_zero s hs])
  clear H0
  generalize lexOf s.data.toList = R at *
  go_enter Tryd.func9, Tryd.ntmps9
  go_wp2_with fail
  go_loopw [5, 6] (fun v i wr => ∃ (k : Nat) (ts : List Tok), k ≤ s.size ∧ i = .int .i64 k ∧ OwnT w.heap.size v ts wr ∧ ts.length ≤ k ∧ Fr [] w wr ∧ Hid (withL ts (restL s k) = R)) (fun _ i _ => s.size - (intOf i).toNat)
  case atStart => exact ⟨0, [], Nat.zero_le _, rfl, OwnT.nil_ _ _, Nat.le_refl _, Fr.refl _ _, HA⟩
  case round =>
    obtain ⟨k, ts, hk, rfl, ⟨hown, hog⟩, hlen, hf, HR⟩ := hrel
    clear HA
    by_cases hlt : k < s.size
    · by_cases hbl : s[k] = 32 ∨ s[k] = 10
      · have HR2 : Hid (withL ts (restL s (k + 1)) = R) := Lib.hid (by rw [← restL_blank s k hlt hbl]; exact HR.out)
        have key : (((s[k].toNat : Nat) : Int) == 32) = true ∨ ((((s[k].toNat : Nat) : Int) == 32) = false ∧ (((s[k].toNat : Nat) : Int) == 10) = true) := by
          rcases hbl with h | h
          · left; rw [h]; rfl
          · right; rw [h]; exact ⟨rfl, rfl⟩
        clear hbl
        rcases key with b1 | ⟨b1, b2⟩
        all_goals
          go_wp2_with fail
          go_roundw
          case rel => exact ⟨k + 1, ts, by omega, by go_num, ⟨hown, hog⟩, by omega, hf, HR2⟩
          case measure => simp [intOf]; omega
      · have b1 : (((s[k].toNat : Nat) : Int) == 32) = false := byte_ne (n := 32) (by omega) (fun h => hbl (.inl h))
        have b2 : (((s[k].toNat : Nat) : Int) == 10) = false := byte_ne (n := 10) (by omega) (fun h => hbl (.inr h))
        have hx : (s.extract k s.size).data.toList = s.data.toList.drop k := by rw [Lib.extract_to_end s k]
        have hxs : (s.extract k s.size).size = s.size - k := by rw [← size_list, hx, drop_len]
        have c1 := fun w hE => Lib.hid (one_any (s.extract k s.size) (by omega) (by omega) w hE)
        rw [hx] at c1
        have hEr := hE.fr hf
        clear hx hxs
        cases ht : tok (s.data.toList.drop k) with
        | error er =>
          have hR := Lib.hid (HR.out.symm.trans (congrArg (withL ts) (restL_err s k hlt hbl ht)))
          have her : ¬ er = 0 := by rcases tok_errs ht with h | h <;> omega
          rw [ht] at c1
          clear ht hbl HR
          go_wp2_with fail
          refine (c1 _ hEr).out.mono ?_
          rintro e x1 ⟨⟨ek, ea, et, en, v2, rfl⟩, f1⟩
          unfold tokV
          go_wp2_with fail
          go_ret3
          refine ⟨?_, (hf.trans f1).alloc _⟩
          rw [hR.out]
          exact rfl
        | ok x =>
          obtain ⟨kd, tx, n, m⟩ := x
          have hm := tok_len ht
          rw [drop_len] at hm
          have HR2 : Hid (withL (ts ++ [⟨kd, k, tx, n⟩]) (restL s (k + m)) = R) := Lib.hid (by rw [← restL_tok s k hlt hbl ht]; exact HR.out)
          rw [ht] at c1
          clear ht hbl HR
          go_wp2_with fail
          refine (c1 _ hEr).out.mono ?_
          rintro e x1 ⟨he, f1⟩
          have he : e = .returned (.tuple #[tokV kd 0 tx n, .int .i64 ((0 + m : Nat) : Int), .int .i64 0]) := he
          rw [Nat.zero_add] at he
          subst he
          unfold tokV
          have hown1 := ownsRow_fr hown f1 (fun _ _ h => by cases h)
          go_wp2_with (at_builtin; refine wpList_append_fp _ rfl _ _ 23 rfl 31 i0 _ 4 40 Tryd.underlying23 hi hz0 hz1 hz2 rfl (by decide) _ _ _ rfl ((hown1.alloc _).alloc _) ⟨x1.heap.size + 1, 0, none⟩ 1 1 [.int .i64 kd, .int .i64 k, .string ⟨tx.toArray⟩, .int .i64 n] rfl rfl ?c1 ?c2 ?c3 ?c4 ?_)
          case c1 =>
            refine tok_news _ _ _ _ _ _ 31 ?_
            have := heap_new (x1.alloc (.cells #[.int .i64 kd, .int .i64 k, .string ⟨tx.toArray⟩, .int .i64 n] 31)) (.cells #[.int .i64 kd, .int .i64 k, .string ⟨tx.toArray⟩, .int .i64 n] 31)
            rw [World.size_alloc] at this
            exact this
          case c2 => intro u hu; simp at hu; rcases hu with rfl | rfl | rfl | rfl <;> rfl
          case c3 => unfold maxLen; omega
          case c4 => omega
          intro v' w2 hown2 hgrow hfp
          have hf2 : Fr [] w w2 := (((hf.trans f1).alloc _).alloc _).append hgrow (fun g hg => .inr (hog g hg))
          have hog2 : ∀ g, v'.ownBlock = some g → w.heap.size ≤ g := fun g hg => by
            rcases hfp g hg with h | h
            · exact hog g h
            · have := hf.size; have := f1.size; (try simp only [World.size_alloc] at h); omega
          have hown3 : w2.ownsRow 0 31 4 v' (ts ++ [(⟨kd, k, tx, n⟩ : Tok)]).length (toksC (ts ++ [(⟨kd, k, tx, n⟩ : Tok)])) := by
            rw [toksC_snoc, List.length_append]; exact hown2
          clear hown2 hgrow hfp hown1 hown
          go_wp2_with fail
          go_roundw
          case rel => exact ⟨k + m, ts ++ [⟨kd, k, tx, n⟩], by omega, by go_num, ⟨hown3, hog2⟩, by rw [List.length_append, List.length_singleton]; omega, hf2, HR2⟩
          case measure => simp [intOf]; omega
    · have hke : k = s.size := by omega
      subst hke
      have hR := Lib.hid (HR.out.symm.trans (congrArg (withL ts) (restL_end s)))
      go_wp2_with (at_builtin; refine wpList_append_fp _ rfl _ _ 23 rfl 31 i0 _ 4 40 Tryd.underlying23 hi hz0 hz1 hz2 rfl (by decide) _ _ _ rfl (hown.alloc _) ⟨wr.heap.size, 0, none⟩ 1 1 [.int .i64 0, .int .i64 s.size, .string ⟨#[]⟩, .int .i64 0] rfl rfl ?d1 ?d2 ?d3 ?d4 ?_)
      case d1 => exact tok_news _ _ _ _ _ _ 31 (heap_new wr _)
      case d2 => intro u hu; simp at hu; rcases hu with rfl | rfl | rfl | rfl <;> rfl
      case d3 => unfold maxLen; omega
      case d4 => omega
      intro v' w2 hown2 hgrow hfp
      have hf2 : Fr [] w w2 := (hf.alloc _).append hgrow (fun g hg => .inr (hog g hg))
      have hog2 : ∀ g, v'.ownBlock = some g → w.heap.size ≤ g := fun g hg => by
        rcases hfp g hg with h | h
        · exact hog g h
        · have := hf.size; (try simp only [World.size_alloc] at h); omega
      have hown3 : w2.ownsRow 0 31 4 v' (ts ++ [(⟨0, s.size, [], 0⟩ : Tok)]).length (toksC (ts ++ [(⟨0, s.size, [], 0⟩ : Tok)])) := by
        rw [toksC_snoc, List.length_append]; exact hown2
      clear hown2 hgrow hfp hown
      go_wp2_with fail
      go_ret3
      refine ⟨?_, hf2⟩
      rw [hR.out]
      exact ⟨v', rfl, hown3, hog2⟩
/-- the program's tokens of a text -/
theorem Lex_any (s : ByteArray) (hs : s.size ≤ 9223372036854775807) (w : World) (hE : EnvL w) :
    Calls Tryd.prog 9 #[.string s] w fun e w' => lexOk (lexOf s.data.toList) w.heap.size e w' ∧ Fr [] w w' := by
  by_cases h : s.size ≤ 4096
  · exact Lex_small s h w hE
  · exact Lex_big s hs (by omega) w
end Go.Proofs.YteffobcelgbiiaaDoor
