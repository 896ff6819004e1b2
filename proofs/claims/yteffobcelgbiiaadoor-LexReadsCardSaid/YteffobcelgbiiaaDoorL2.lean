/- Layer 5, walks: words, names, quoted texts. -/
import Derived.Test.YteffobcelgbiiaaDoorL1
import Derived.Lib.IndexMore
import Derived.Lib.IndexBytes
namespace Go.Proofs.YteffobcelgbiiaaDoor
open Go.RowKit

theorem gMax : Tryd.prog.globalNamed "internal/bytealg.MaxLen" = some 0 := by kernel_rfl
theorem nMax : 0 < Tryd.prog.globals.size := of_decide_eq_true (by kernel_rfl)
/-- what layer 5 needs of the package-level variables -/
structure EnvL (w : World) : Prop where
  env : Env w
  max : ∃ m, w.cell? ⟨0, 0, none⟩ = some (.int .i64 m)
theorem EnvL.fr {w w' : World} (h : EnvL w) (hb : Fr [] w w') : EnvL w' := by
  obtain ⟨he, m, hm⟩ := h
  refine ⟨he.fr hb, m, ?_⟩
  rw [hb.cell (p := ⟨0, 0, none⟩) (Nat.lt_of_lt_of_le nMax he.size) (fun h => by cases h)]
  exact hm

theorem contains_iff (s sub : List UInt8) : Lib.contains s sub = true ↔ sub <:+: s := by
  unfold Lib.contains
  rw [decide_eq_true_eq]
  induction s with
  | nil =>
    unfold Lib.index
    cases sub with
    | nil => simp
    | cons a r => simp
  | cons b l ih =>
    rw [Lib.index]
    by_cases hp : sub.isPrefixOf (b :: l) = true
    · rw [if_pos hp]
      exact ⟨fun _ => (List.isPrefixOf_iff_prefix.1 hp).isInfix, fun _ => by omega⟩
    · rw [if_neg hp]
      have hge : ∀ l : List UInt8, -1 ≤ Lib.index l sub := by
        intro l
        induction l with
        | nil => unfold Lib.index; split <;> omega
        | cons c r ih2 => rw [Lib.index]; split; · omega
                          · split; · omega
                            · omega
      have := hge l
      by_cases h1 : Lib.index l sub = -1
      · rw [h1] at ih ⊢
        simp only [beq_self_eq_true, if_true]
        constructor
        · intro h; omega
        · intro h
          rcases List.infix_cons_iff.1 h with h | h
          · exact absurd (List.isPrefixOf_iff_prefix.2 h) hp
          · have := ih.2 h; omega
      · have h2 : (Lib.index l sub == -1) = false := by rw [beq_eq_false_iff_ne]; exact h1
        rw [h2]
        simp only [Bool.false_eq_true, if_false]
        constructor
        · intro _; exact (ih.1 (by omega)).trans (List.suffix_cons b l).isInfix
        · intro _; omega
theorem index1_iff (s : List UInt8) (c : UInt8) : decide (0 ≤ Lib.indexByte s c) = s.contains c := by
  rw [Bool.eq_iff_iff, decide_eq_true_eq, List.contains_iff_mem]
  have hge := Lib.indexByte_ge s c
  constructor
  · intro h
    obtain ⟨o, ho⟩ : ∃ o : Nat, Lib.indexByte s c = o := ⟨(Lib.indexByte s c).toNat, by omega⟩
    exact List.mem_of_getElem? (Lib.indexByte_some ho).1
  · intro h
    rcases Int.lt_or_le (Lib.indexByte s c) 0 with h1 | h1
    · obtain ⟨k, hk⟩ := List.mem_iff_getElem?.1 h
      exact absurd hk (Lib.indexByte_none (by omega) k)
    · exact h1
theorem Contains_blank (s : ByteArray) (w : World) : Calls Tryd.prog 19 #[.string s, .string ⟨#[32]⟩] w fun e w' => e = .returned (.bool (s.data.toList.contains 32)) ∧ w' = w := by
  have h := Tryd.strings_Contains_one s 32 w
  rw [index1_iff] at h
  exact h
theorem Contains_words (s : ByteArray) (w : World) (hE : EnvL w) (h0 : s.data.toList ≠ []) (hb : (32 : UInt8) ∉ s.data.toList) (W : ByteArray) (hW : W.data.toList = wordsB) (sub : ByteArray) (hsub : sub.data.toList = [32] ++ s.data.toList ++ [32]) :
    Calls Tryd.prog 19 #[.string W, .string sub] w fun e w' => e = .returned (.bool (isWordB s.data.toList)) ∧ w' = w := by
  obtain ⟨_, m, hm⟩ := hE
  have h := Tryd.strings_Contains W sub m w (by rw [← size_list, hW]; decide) hm
  have e : Lib.contains W.data.toList sub.data.toList = isWordB s.data.toList := by
    rw [Bool.eq_iff_iff, contains_iff, isWord_iff _ h0 hb, hW, hsub]
  rw [e] at h
  exact h
theorem isWord_nil : isWordB [] = false := by decide
theorem isWord_blank {s : List UInt8} (h : (32 : UInt8) ∈ s) : isWordB s = false := by
  rw [Bool.eq_false_iff]
  intro hw
  exact (words_facts s (by simpa [isWordB] using hw)).2 h

set_option maxRecDepth 100000 in
theorem IsWord_any (s : ByteArray) (hs : s.size ≤ 1000000) (w : World) (hE : EnvL w) :
    Calls Tryd.prog 13 #[.string s] w fun e w' => e = .returned (.bool (isWordB s.data.toList)) ∧ Fr [] w w' := by
  by_cases h0 : s.data.toList = []
  · have e0 : s.toList.isEmpty = true := by rw [ByteArray.toList_eq, h0]; rfl
    have e1 : s.toList = [] := by rw [ByteArray.toList_eq, h0]
    rw [h0, isWord_nil]
    go_enter Tryd.func13, Tryd.ntmps13
    go_wp2_with fail
    go_ret
    exact ⟨rfl, Fr.refl _ _⟩
  · have e1 : ¬ s.toList = [] := by rw [ByteArray.toList_eq]; exact h0
    have e0 : s.toList.isEmpty = false := by rw [ByteArray.toList_eq]; cases h : s.data.toList with | nil => exact absurd h h0 | cons _ _ => rfl
    by_cases hb : (32 : UInt8) ∈ s.data.toList
    · have c1 := Lib.hid (Contains_blank s w)
      have e2 : s.data.toList.contains 32 = true := List.contains_iff_mem.2 hb
      rw [isWord_blank hb]
      go_enter Tryd.func13, Tryd.ntmps13
      go_wp2_with fail
      refine c1.out.mono ?_; rintro e x1 ⟨rfl, rfl⟩; go_wp2_with fail
      go_ret
      exact ⟨rfl, Fr.refl _ _⟩
    · have c1 := Lib.hid (Contains_blank s w)
      have e2 : s.data.toList.contains 32 = false := by rw [Bool.eq_false_iff]; intro h; exact hb (List.contains_iff_mem.1 h)
      have c2 := fun W hW sub hsub => Lib.hid (Contains_words s w hE h0 hb W hW sub hsub)
      go_enter Tryd.func13, Tryd.ntmps13
      go_wp2_with fail
      refine c1.out.mono ?_; rintro e x1 ⟨rfl, rfl⟩; go_wp2_with fail
      refine (c2 _ (by decide) _ (by simp)).out.mono ?_; rintro e x1 ⟨rfl, rfl⟩; go_wp2_with fail
      go_ret
      exact ⟨rfl, Fr.refl _ _⟩

/-- quoted: where a quoted text ends -/
def qrest (s : ByteArray) (i : Nat) : Option Nat := (qlen (s.data.toList.drop i)).map (· + i)
theorem qrest_end (s : ByteArray) (i : Nat) (h : s.size ≤ i) : qrest s i = none := by
  unfold qrest; rw [List.drop_of_length_le (by rw [size_list]; exact h)]; rfl
theorem qrest_quote (s : ByteArray) (i : Nat) (h : i < s.size) (hc : s[i] = 34) : qrest s i = some (i + 1) := by
  unfold qrest; rw [drop_cons s i h, hc, qlen_end]; simp [Nat.add_comm]
theorem qrest_other (s : ByteArray) (i : Nat) (h : i < s.size) (h1 : s[i] ≠ 92) (h2 : s[i] ≠ 34) : qrest s i = qrest s (i + 1) := by
  unfold qrest; rw [drop_cons s i h, qlen_other _ _ h1 h2]
  cases qlen (s.data.toList.drop (i + 1)) with
  | none => rfl
  | some k => simp; omega
theorem qrest_esc (s : ByteArray) (i : Nat) (h : i < s.size) (hc : s[i] = 92) : qrest s i = qrest s (i + 2) := by
  unfold qrest; rw [drop_cons s i h, hc]
  by_cases h2 : i + 1 < s.size
  · rw [drop_cons s (i + 1) h2, qlen_esc]
    cases qlen (s.data.toList.drop (i + 1 + 1)) with
    | none => rfl
    | some k => simp; omega
  · rw [List.drop_of_length_le (by rw [size_list]; omega), List.drop_of_length_le (by rw [size_list]; omega), qlen_one]; rfl
/-- the quoted text that a text begins with -/
def quoL (l : List UInt8) : Option (List UInt8) := (qlen (l.drop 1)).map fun k => l.take (1 + k)

set_option maxRecDepth 100000 in
theorem quoted_any (s : ByteArray) (hs : s.size ≤ 1000000) (w : World) :
    Calls Tryd.prog 25 #[.string s] w fun e w' => e = .returned (.tuple #[.string ⟨((quoL s.data.toList).getD []).toArray⟩, .bool (quoL s.data.toList).isSome]) ∧ w = w' := by
  have e0 : quoL s.data.toList = (qrest s 1).map fun k => s.data.toList.take k := by
    unfold quoL qrest
    cases qlen (s.data.toList.drop 1) with
    | none => rfl
    | some k => simp [Nat.add_comm]
  rw [e0]
  clear e0
  have HQ : Hid (qrest s 1 = qrest s 1) := Lib.hid rfl
  generalize hg : qrest s 1 = Q at HQ ⊢
  have HG := Lib.hid hg
  clear hg
  go_enter Tryd.func25, Tryd.ntmps25
  go_wp2_with fail
  go_loop [4] (fun i => ∃ k : Nat, i = .int .i64 k ∧ k ≤ s.size + 2 ∧ Hid (qrest s k = Q)) (fun i => s.size - (intOf i).toNat)
  case atStart => exact ⟨1, rfl, by omega, HG⟩
  case round =>
    obtain ⟨k, rfl, hk, HK⟩ := hrel
    clear HG HQ
    by_cases hlt : k < s.size
    · by_cases h1 : s[k] = 92
      · have HK2 := Lib.hid ((qrest_esc s k hlt h1).symm.trans HK.out)
        have b1 : (((s[k].toNat : Nat) : Int) == 92) = true := by rw [h1]; rfl
        clear h1
        go_wp2_with fail
        go_round
        case rel => exact ⟨k + 2, by go_num, by omega, HK2⟩
        case measure => simp [intOf]; omega
      · have b1 : (((s[k].toNat : Nat) : Int) == 92) = false := by
          rw [beq_eq_false_iff_ne]; intro h; apply h1; apply UInt8.toNat_inj.1; have h9 : (92 : UInt8).toNat = 92 := rfl; omega
        by_cases h2 : s[k] = 34
        · have hq := (qrest_quote s k hlt h2).symm.trans HK.out
          subst hq
          have b2 : (((s[k].toNat : Nat) : Int) == 34) = true := by rw [h2]; rfl
          have q1 : 0 ≤ (k : Int) + 1 ∧ (k : Int) + 1 ≤ (s.size : Int) := by omega
          clear h1 h2 HK
          go_wp2_with fail
          go_ret2
          exact ⟨by rw [← ext_take]; rfl, rfl⟩
        · have b2 : (((s[k].toNat : Nat) : Int) == 34) = false := by
            rw [beq_eq_false_iff_ne]; intro h; apply h2; apply UInt8.toNat_inj.1; have h9 : (34 : UInt8).toNat = 34 := rfl; omega
          have HK2 := Lib.hid ((qrest_other s k hlt h1 h2).symm.trans HK.out)
          clear h1 h2
          go_wp2_with fail
          go_round
          case rel => exact ⟨k + 1, by go_num, by omega, HK2⟩
          case measure => simp [intOf]; omega
    · have hq := (qrest_end s k (by omega)).symm.trans HK.out
      subst hq
      go_wp2_with fail
      go_ret2
      exact ⟨rfl, rfl⟩

theorem takeWhile_all (p : UInt8 → Bool) : ∀ l : List UInt8, l.takeWhile p = l ↔ l.all p = true
  | [] => by simp
  | c :: r => by
    by_cases h : p c = true
    · rw [List.takeWhile_cons_of_pos h, List.all_cons, h, Bool.true_and, ← takeWhile_all p r]; simp
    · rw [List.takeWhile_cons_of_neg h, List.all_cons]; simp [h]

set_option maxRecDepth 100000 in
theorem IsName_any (s : ByteArray) (hs : s.size ≤ 1000000) (w : World) (hE : EnvL w) :
    Calls Tryd.prog 14 #[.string s] w fun e w' => e = .returned (.bool (isNameB s.data.toList)) ∧ Fr [] w w' := by
  by_cases h0 : s.data.toList = []
  · have e0 : s.toList.isEmpty = true := by rw [ByteArray.toList_eq, h0]; rfl
    have e1 : s.toList = [] := by rw [ByteArray.toList_eq, h0]
    rw [h0]
    go_enter Tryd.func14, Tryd.ntmps14
    go_wp2_with fail
    go_ret
    exact ⟨rfl, Fr.refl _ _⟩
  · have e1 : ¬ s.toList = [] := by rw [ByteArray.toList_eq]; exact h0
    have e0 : s.toList.isEmpty = false := by rw [ByteArray.toList_eq]; cases h : s.data.toList with | nil => exact absurd h h0 | cons _ _ => rfl
    have hp : 0 < s.size := by rw [← size_list]; exact List.length_pos_iff.2 h0
    have hd : isNameB s.data.toList = (smallB s[0] && s.data.toList.all bodyB && !isWordB s.data.toList) := by
      have h1 : s.data.toList = s[0] :: s.data.toList.drop 1 := by
        have := drop_cons s 0 hp
        simpa using this
      rw [h1]; rfl
    have hrun : (runL s.data.toList == s.toList) = s.data.toList.all bodyB := by
      rw [ByteArray.toList_eq, Bool.eq_iff_iff, beq_iff_eq]
      exact takeWhile_all bodyB _
    have wv : wrap32 ((s[0].toNat : Nat) : Int) = ((s[0].toNat : Nat) : Int) := by have := s[0].toNat_lt; unfold wrap32; omega
    rw [hd]
    clear hd
    have hsm := smallI_byte s[0]
    cases hb1 : smallB s[0] with
    | false =>
      rw [hb1] at hsm
      go_enter Tryd.func14, Tryd.ntmps14
      go_wp2_with fail
      refine (small_any _ _).mono ?_; rintro e x1 ⟨rfl, rfl⟩; go_wp2_with fail
      go_ret
      exact ⟨rfl, Fr.refl _ _⟩
    | true =>
      rw [hb1] at hsm
      cases hb2 : s.data.toList.all bodyB with
      | false =>
        rw [hb2] at hrun
        go_enter Tryd.func14, Tryd.ntmps14
        go_wp2_with fail
        refine (small_any _ _).mono ?_; rintro e x1 ⟨rfl, rfl⟩; go_wp2_with fail
        refine (run_any s (by omega) _).mono ?_; rintro e x1 ⟨rfl, h1⟩; go_wp2_with fail
        go_ret
        exact ⟨rfl, h1⟩
      | true =>
        rw [hb2] at hrun
        go_enter Tryd.func14, Tryd.ntmps14
        go_wp2_with fail
        refine (small_any _ _).mono ?_; rintro e x1 ⟨rfl, rfl⟩; go_wp2_with fail
        refine (run_any s (by omega) _).mono ?_; rintro e x1 ⟨rfl, h1⟩; go_wp2_with fail
        refine (IsWord_any s hs _ (hE.fr h1)).mono ?_; rintro e x2 ⟨rfl, h2⟩; go_wp2_with fail
        go_ret
        exact ⟨rfl, h1.trans h2⟩
end Go.Proofs.YteffobcelgbiiaaDoor
