/- Layer 1, plain: the laws of the operations, of words and of numbers' texts. -/
import Derived.Test.YtbeekiclmfcohaaDoorW13
import Derived.Lib.ItoaLen
namespace Go.Proofs.YtbeekiclmfcohaaDoor
open Go.RowKit

theorem num_of (n : Int) : numN (ofN n) = W63 n := by
  have h0 := W63_ge n; have h1 := W63_le n
  unfold numN ofN
  split <;> omega
theorem isN_of (n : Int) : isN (ofN n) = true := by
  unfold isN ofN
  rw [beq_iff_eq]; omega
theorem of_bd (n : Int) : 0 ≤ ofN n ∧ ofN n < 18446744073709551616 := by unfold ofN; omega
theorem ref_bd (a : Int) : 0 ≤ refN a ∧ refN a < 18446744073709551616 := by unfold refN; split <;> omega
theorem addr_ref (a : Int) (h0 : 0 ≤ a) (h1 : a ≤ 2147483647) : addrN (refN a) = a := by
  unfold refN; rw [if_neg (by omega)]; unfold addrN; rw [if_neg (by omega)]; omega
theorem isN_ref (a : Int) : isN (refN a) = false := by
  unfold isN refN
  split
  · rfl
  · rw [beq_eq_false_iff_ne]; omega
theorem and31 (n : Int) : bits .and .i64 n 2147483647 = n % 2147483648 := by
  have h127 : (BitVec.ofInt 64 2147483647).toNat = 2 ^ 31 - 1 := by rw [BitVec.toNat_ofInt]; decide
  have key : (BitVec.ofInt 64 n &&& BitVec.ofInt 64 2147483647).toNat = (n % ((2 ^ 64 : Nat) : Int)).toNat % 2 ^ 31 := by
    rw [BitVec.toNat_and, BitVec.toNat_ofInt, h127, Nat.and_two_pow_sub_one_eq_mod]
  show IntKind.i64.wrap ((BitVec.ofInt 64 n &&& BitVec.ofInt 64 2147483647).toNat : Nat) = n % 2147483648
  rw [key, IntKind.wrap_i64]
  omega

/-! ### numbers' texts -/
theorem valD_snocq (l : List UInt8) (c : UInt8) : ∀ acc, valD acc (l ++ [c]) = valD acc l * 10 + (c.toNat - 48) := by
  induction l with
  | nil => intro acc; rfl
  | cons d r ih => intro acc; exact ih (acc * 10 + (d.toNat - 48))
theorem dec_facts : ∀ m n : Nat, n ≤ m → (Lib.decDigits n).all isDig = true ∧ valD 0 (Lib.decDigits n) = n ∧ Lib.decDigits n ≠ [] ∧ (1 ≤ n → (Lib.decDigits n).head? ≠ some 48) ∧ (n < 10 → (Lib.decDigits n).length = 1) := by
  intro m
  induction m with
  | zero =>
    intro n hn
    have : n = 0 := by omega
    subst this
    rw [Lib.decDigits, dif_pos (by omega)]
    exact ⟨by decide, by decide, by decide, fun h => absurd h (by decide), fun _ => rfl⟩
  | succ m ih =>
    intro n hn
    rw [Lib.decDigits]
    by_cases h : n < 10
    · rw [dif_pos h]
      have hx : (UInt8.ofNat (48 + n)).toNat = 48 + n := by rw [UInt8.toNat_ofNat']; omega
      refine ⟨?_, ?_, by simp, ?_, fun _ => rfl⟩
      · rw [List.all_cons, List.all_nil, Bool.and_true, isDig_iff, hx]; omega
      · show 0 * 10 + ((UInt8.ofNat (48 + n)).toNat - 48) = n
        rw [hx]; omega
      · intro h1 h2
        simp only [List.head?_cons, Option.some.injEq] at h2
        have := congrArg UInt8.toNat h2
        rw [hx] at this
        have h9 : (48 : UInt8).toNat = 48 := rfl
        omega
    · rw [dif_neg h]
      obtain ⟨i1, i2, i3, i4, _⟩ := ih (n / 10) (by omega)
      have hx : (UInt8.ofNat (48 + n % 10)).toNat = 48 + n % 10 := by rw [UInt8.toNat_ofNat']; omega
      refine ⟨?_, ?_, by simp, ?_, fun h2 => absurd h2 h⟩
      · rw [List.all_append, i1, List.all_cons, List.all_nil, Bool.and_true, Bool.true_and, isDig_iff, hx]; omega
      · rw [valD_snocq, i2, hx]; omega
      · intro _ h2
        rw [List.head?_append] at h2
        cases hd : Lib.decDigits (n / 10) with
        | nil => exact i3 hd
        | cons y r =>
          have := i4 (by omega)
          rw [hd] at this h2
          simp at this h2
          exact this h2
theorem itoa_nat {n : Int} (h : 0 ≤ n) : Lib.itoa n = Lib.decDigits n.toNat := by unfold Lib.itoa; rw [if_neg (by omega)]
theorem itoa_num {n : Int} (h : 0 ≤ n) : numeral (Lib.itoa n) = true ∧ (valD 0 (Lib.itoa n) : Int) = n := by
  rw [itoa_nat h]
  obtain ⟨i1, i2, i3, i4, i5⟩ := dec_facts n.toNat n.toNat (Nat.le_refl _)
  refine ⟨?_, by rw [i2]; omega⟩
  unfold numeral
  rw [i1]
  have e : (Lib.decDigits n.toNat).isEmpty = false := by simpa using i3
  rw [e]
  by_cases h0 : 1 ≤ n.toNat
  · have : ((Lib.decDigits n.toNat).head? == some 48) = false := by rw [beq_eq_false_iff_ne]; exact i4 h0
    rw [this]; rfl
  · have := i5 (by omega)
    rw [this]; simp
theorem read_itoa {n : Int} (h : 0 ≤ n) (h1 : n ≤ 4611686018427387903) : readN (Lib.itoa n) = n ∧ readE (Lib.itoa n) = 0 := by
  obtain ⟨e1, e2⟩ := itoa_num h
  unfold readN readE
  rw [e1, if_pos ⟨rfl, by omega⟩, if_pos rfl, if_pos (by omega)]
  exact ⟨e2, rfl⟩
theorem itoa_head {n : Int} (h : n < 0) : (Lib.itoa n).head? = some 45 := by unfold Lib.itoa; rw [if_pos h]; rfl

/-! ### the ring -/
theorem ring_comm (op a b : Int) (h : op = 1 ∨ op = 3) : doN op a b = doN op b a := by
  rcases h with rfl | rfl
  · unfold doN; rw [if_pos rfl, if_pos rfl, Int.add_comm]
  · unfold doN; rw [if_neg (by omega), if_neg (by omega), if_pos rfl, if_neg (by omega), if_neg (by omega), if_pos rfl, Int.mul_comm]
theorem do_add (a b : Int) : doN 1 a b = W63 (a + b) := by unfold doN; rw [if_pos rfl]
theorem do_sub (a b : Int) : doN 2 a b = W63 (a - b) := by unfold doN; rw [if_neg (by omega), if_pos rfl]
theorem do_mul (a b : Int) : doN 3 a b = W63 (a * b) := by unfold doN; rw [if_neg (by omega), if_neg (by omega), if_pos rfl]
theorem do_neg (a b : Int) : doN 6 a b = W63 (-a) := by unfold doN; rw [if_neg (by omega), if_neg (by omega), if_neg (by omega), if_neg (by omega), if_neg (by omega), if_pos rfl]
theorem ring_assoc (op a b c : Int) (h : op = 1 ∨ op = 3) : doN op (W63 a) (W63 (doN op (W63 b) (W63 c))) = doN op (W63 (doN op (W63 a) (W63 b))) (W63 c) := by
  rcases h with rfl | rfl
  · simp only [do_add, W63_idem, W63_addL, W63_addR]; congr 1; omega
  · simp only [do_mul, W63_idem, W63_mulL, W63_mulR, Int.mul_assoc]
theorem ring_zero (a : Int) : doN 1 (W63 a) (W63 0) = W63 a := by rw [do_add, W63_add, Int.add_zero]
theorem ring_one (a : Int) : doN 3 (W63 a) (W63 1) = W63 a := by rw [do_mul, W63_mul, Int.mul_one]
theorem ring_neg (a x : Int) : doN 1 (W63 a) (W63 (doN 6 (W63 a) x)) = 0 := by
  rw [do_add, do_neg, W63_idem, W63_add, ← W63_addR a (-(W63 a)), W63_neg, W63_addR, show a + -a = 0 by omega]
  exact W63_in (by omega) (by omega)
theorem ring_sub (a b x : Int) : doN 2 (W63 a) (W63 b) = doN 1 (W63 a) (W63 (doN 6 (W63 b) x)) := by
  rw [do_sub, do_add, do_neg, W63_idem, W63_addR, Int.sub_eq_add_neg]
theorem ring_dist (a b c : Int) : doN 3 (W63 a) (W63 (doN 1 (W63 b) (W63 c))) = doN 1 (W63 (doN 3 (W63 a) (W63 b))) (W63 (doN 3 (W63 a) (W63 c))) := by
  simp only [do_mul, do_add, W63_idem, W63_add, W63_mul, Int.mul_add]
end Go.Proofs.YtbeekiclmfcohaaDoor
