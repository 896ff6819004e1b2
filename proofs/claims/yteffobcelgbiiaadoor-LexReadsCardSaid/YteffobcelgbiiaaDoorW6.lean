/- Layer 1, walks: a number's text. -/
import Derived.Test.YteffobcelgbiiaaDoorRows
import Derived.Test.YteffobcelgbiiaaDoorWp
import Derived.Test.YteffobcelgbiiaaDoorAp
import Derived.Test.YteffobcelgbiiaaDoorShelf
import Derived.Laws.BytesString
import Derived.Laws.BytesArg
import Derived.Lib.ItoaLen
namespace Go.Proofs.YteffobcelgbiiaaDoor
open Go.RowKit

/-- what the calls need of the package-level variables -/
structure Env (w : World) : Prop where
  size : Tryd.prog.globals.size ≤ w.heap.size
  tab : Lib.TabIs Tryd.prog w "internal/strconv.uint64pow10" .u64 Lib.pow10Tab
  rng : ∃ tp p, w.var? Tryd.prog "strconv.ErrRange" = some #[.iface tp p]

theorem gTab : Tryd.prog.globalNamed "internal/strconv.uint64pow10" = some 5 := by kernel_rfl
theorem gRng : Tryd.prog.globalNamed "strconv.ErrRange" = some 2 := by kernel_rfl
theorem nGlob : 5 < Tryd.prog.globals.size ∧ 2 < Tryd.prog.globals.size := by constructor <;> exact of_decide_eq_true (by kernel_rfl)

theorem Env.below {w w' : World} (h : Env w) (hb : Below w.heap.size w w') : Env w' := by
  obtain ⟨hs, ht, tp, p, hr⟩ := h
  exact ⟨Nat.le_trans hs hb.size, var?_below hb gTab (Nat.lt_of_lt_of_le nGlob.1 hs) ht, tp, p, var?_below hb gRng (Nat.lt_of_lt_of_le nGlob.2 hs) hr⟩
theorem Env.fr {w w' : World} (h : Env w) (hb : Fr [] w w') : Env w' := h.below hb.below0

/-! ### the reference's -/
theorem itoa_pos {n : Int} (h : 10 ≤ n) : Lib.itoa n = Lib.itoa (n / 10) ++ Lib.itoa (n % 10) := by
  unfold Lib.itoa
  rw [if_neg (by omega), if_neg (by omega), if_neg (by omega)]
  have e : (n / 10).toNat = n.toNat / 10 := by omega
  have e2 : (n % 10).toNat = n.toNat % 10 := by omega
  rw [Lib.decDigits, dif_neg (by omega), e, e2, Lib.decDigits.eq_1 (n.toNat % 10), dif_pos (by omega)]
theorem itoa_neg {n : Int} (h : n ≤ -10) : Lib.itoa n = Lib.itoa (n.tdiv 10) ++ Lib.itoa (-(n.tmod 10)) := by
  have e0 : n.tdiv 10 = -((-n) / 10) := by
    rw [← Int.neg_neg n, Int.neg_tdiv, Int.tdiv_eq_ediv_of_nonneg (by omega), Int.neg_neg]
  have e1 : n.tmod 10 = -((-n) % 10) := by
    rw [← Int.neg_neg n, Int.neg_tmod, Int.tmod_eq_emod_of_nonneg (by omega), Int.neg_neg]
  rw [e0, e1, Int.neg_neg]
  unfold Lib.itoa
  rw [if_pos (by omega), if_pos (by omega), if_neg (by omega)]
  have e : (-(-n / 10)).natAbs = n.natAbs / 10 := by omega
  have e2 : (-n % 10).toNat = n.natAbs % 10 := by omega
  rw [Lib.decDigits, dif_neg (by omega), e, e2, Lib.decDigits.eq_1 (n.natAbs % 10), dif_pos (by omega), List.cons_append]
theorem itoa_digit {n : Int} (h0 : 0 ≤ n) (h1 : n < 10) : Lib.itoa n = [UInt8.ofNat (48 + n.toNat)] := by
  unfold Lib.itoa
  rw [if_neg (by omega), Lib.decDigits, dif_pos (by omega)]
theorem itoa_minus {n : Int} (h0 : n < 0) : Lib.itoa n = 45 :: Lib.itoa (-n) := by
  unfold Lib.itoa
  rw [if_pos h0, if_neg (by omega)]
  have e : (-n).toNat = n.natAbs := by omega
  rw [e]

/-- what the reference's Text answers -/
def RTextOk (n : Int) : Prop := ∀ w : World, Calls Tryd.prog 17 #[.int .i64 n] w fun e w' => e = .returned (.string ⟨(Lib.itoa n).toArray⟩) ∧ Fr [] w w'

set_option maxRecDepth 100000 in
theorem RText_digit (n : Int) (h0 : 0 ≤ n) (h1 : n < 10) : RTextOk n := by
  intro w
  rw [itoa_digit h0 h1]
  have e : (48 + n).toNat = 48 + n.toNat := by omega
  have hc := run_bytes_one Tryd.underlying32 Tryd.underlying5 Tryd.underlying9 w (48 + n) 5
  rw [e] at hc
  have d1 : decide (0 ≤ n) = true := decide_eq_true h0
  have d2 : decide (n < 10) = true := decide_eq_true h1
  clear e
  go_enter Tryd.func17, Tryd.ntmps17
  go_wp2_with fail
  go_ret
  exact ⟨by simp, (Fr.refl [] w).alloc _⟩

set_option maxRecDepth 100000 in
theorem RText_minus (n : Int) (h0 : n < 0) (h1 : -10 < n) : RTextOk n := by
  intro w
  have hd := Lib.hid (RText_digit (-n) (by omega) (by omega) w)
  have hl := Lib.itoa_length_le (-n) (by omega) (by omega)
  rw [itoa_minus h0]
  generalize Lib.itoa (-n) = l at *
  have d1 : decide (0 ≤ n) = false := decide_eq_false (by omega)
  have d2 : decide (n < 0) = true := decide_eq_true h0
  have d3 : decide (-10 < n) = true := decide_eq_true h1
  go_enter Tryd.func17, Tryd.ntmps17
  go_wp2_with fail
  refine hd.out.mono ?_
  rintro e w1 ⟨rfl, hf⟩
  go_wp2_with fail
  go_ret
  exact ⟨by simp [ByteArray.mk_append_mk], hf⟩

set_option maxRecDepth 100000 in
theorem RText_great (n : Int) (h0 : 10 ≤ n) (h1 : n ≤ 9223372036854775807) (ih : RTextOk (n / 10)) : RTextOk n := by
  intro w
  have hd := fun w => Lib.hid (RText_digit (n % 10) (by omega) (by omega) w)
  have hi := fun w => Lib.hid (ih w)
  have hl := Lib.itoa_length_le (n / 10) (by omega) (by omega)
  have hm := Lib.itoa_length_le (n % 10) (by omega) (by omega)
  have HI := Lib.hid hi
  have HD := Lib.hid hd
  clear hi hd
  rw [itoa_pos h0]
  generalize Lib.itoa (n / 10) = l at *
  generalize Lib.itoa (n % 10) = m at *
  have d1 : decide (0 ≤ n) = true := decide_eq_true (by omega)
  have d2 : decide (n < 10) = false := decide_eq_false (by omega)
  have d3 : decide (n < 0) = false := decide_eq_false (by omega)
  go_enter Tryd.func17, Tryd.ntmps17
  go_wp2_with fail
  refine (HI.out _).out.mono ?_
  rintro e w1 ⟨rfl, hf⟩
  go_wp2_with fail
  refine (HD.out _).out.mono ?_
  rintro e w2 ⟨rfl, hf2⟩
  go_wp2_with fail
  go_ret
  exact ⟨by simp [ByteArray.mk_append_mk], hf.trans hf2⟩

set_option maxRecDepth 100000 in
theorem RText_least (n : Int) (h0 : n ≤ -10) (h1 : -9223372036854775808 ≤ n) (ih : RTextOk (n.tdiv 10)) : RTextOk n := by
  intro w
  have e0 : n.tdiv 10 = -((-n) / 10) := by
    rw [← Int.neg_neg n, Int.neg_tdiv, Int.tdiv_eq_ediv_of_nonneg (by omega), Int.neg_neg]
  have e1 : n.tmod 10 = -((-n) % 10) := by
    rw [← Int.neg_neg n, Int.neg_tmod, Int.tmod_eq_emod_of_nonneg (by omega), Int.neg_neg]
  have hd := fun w => Lib.hid (RText_digit (-(n.tmod 10)) (by omega) (by omega) w)
  have hi := fun w => Lib.hid (ih w)
  have hl := Lib.itoa_length_le (n.tdiv 10) (by omega) (by omega)
  have hm := Lib.itoa_length_le (-(n.tmod 10)) (by omega) (by omega)
  have HI := Lib.hid hi
  have HD := Lib.hid hd
  have b0 : -9 ≤ n.tmod 10 := by omega
  have b1 : n.tmod 10 ≤ 0 := by omega
  clear hi hd e0 e1
  rw [itoa_neg h0]
  generalize Lib.itoa (n.tdiv 10) = l at *
  generalize Lib.itoa (-(n.tmod 10)) = m at *
  have d1 : decide (0 ≤ n) = false := decide_eq_false (by omega)
  have d2 : decide (n < 0) = true := decide_eq_true (by omega)
  have d3 : decide (-10 < n) = false := decide_eq_false (by omega)
  go_enter Tryd.func17, Tryd.ntmps17
  go_wp2_with fail
  refine (HI.out _).out.mono ?_
  rintro e w1 ⟨rfl, hf⟩
  go_wp2_with fail
  refine (HD.out _).out.mono ?_
  rintro e w2 ⟨rfl, hf2⟩
  go_wp2_with fail
  go_ret
  exact ⟨by simp [ByteArray.mk_append_mk], hf.trans hf2⟩

theorem RText_all : ∀ (k : Nat) (n : Int), n.natAbs ≤ k → -9223372036854775808 ≤ n → n ≤ 9223372036854775807 → RTextOk n
  | 0, n, hk, h0, h1 => RText_digit n (by omega) (by omega)
  | k + 1, n, hk, h0, h1 => by
    by_cases a : 10 ≤ n
    · exact RText_great n a h1 (RText_all k (n / 10) (by omega) (by omega) (by omega))
    · by_cases b : n ≤ -10
      · have e0 : n.tdiv 10 = -((-n) / 10) := by
          rw [← Int.neg_neg n, Int.neg_tdiv, Int.tdiv_eq_ediv_of_nonneg (by omega), Int.neg_neg]
        exact RText_least n b h0 (RText_all k (n.tdiv 10) (by omega) (by omega) (by omega))
      · by_cases c : 0 ≤ n
        · exact RText_digit n c (by omega)
        · exact RText_minus n (by omega) (by omega)

/-- the reference's Text -/
theorem RText_any (n : Int) (h0 : -9223372036854775808 ≤ n) (h1 : n ≤ 9223372036854775807) (w : World) :
    Calls Tryd.prog 17 #[.int .i64 n] w fun e w' => e = .returned (.string ⟨(Lib.itoa n).toArray⟩) ∧ Fr [] w w' :=
  RText_all n.natAbs n (Nat.le_refl _) h0 h1 w
end Go.Proofs.YteffobcelgbiiaaDoor
