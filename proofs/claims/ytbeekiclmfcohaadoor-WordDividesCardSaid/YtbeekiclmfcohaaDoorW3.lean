/- Layer 1, walks: the reference's operations (its product is by doubled sums). -/
import Derived.Test.YtbeekiclmfcohaaDoorW1
namespace Go.Proofs.YtbeekiclmfcohaaDoor
open Go.RowKit

set_option maxHeartbeats 400000 in
theorem Rtruth_any (b : Bool) (w : World) :
    Calls Tryd.prog 36 #[.bool b] w fun e w' => e = .returned (.int .i64 (if b then 1 else 0)) ∧ w = w' := by
  cases b
  · go_enter Tryd.func36, Tryd.ntmps36
    go_wp2
    go_ret
    exact ⟨rfl, rfl⟩
  · go_enter Tryd.func36, Tryd.ntmps36
    go_wp2
    go_ret
    exact ⟨rfl, rfl⟩

/-- a round of the product: what is still to add is the same -/
theorem mul_odd (n a : Int) (k : Nat) (hk : k % 2 = 1) : W63 (W63 (n + a) + W63 (W63 a + W63 a) * ((k / 2 : Nat) : Int)) = W63 (n + a * (k : Int)) := by
  have e1 : (k : Int) = 2 * ((k / 2 : Nat) : Int) + 1 := by omega
  rw [W63_add a a, ← W63_addR, W63_mulL, W63_addR, W63_addL, e1]
  have e2 : n + a + (a + a) * ((k / 2 : Nat) : Int) = n + a * (2 * ((k / 2 : Nat) : Int) + 1) := by grind
  rw [e2]
theorem mul_even (n a : Int) (k : Nat) (hk : k % 2 = 0) : W63 (n + W63 (W63 a + W63 a) * ((k / 2 : Nat) : Int)) = W63 (n + a * (k : Int)) := by
  have e1 : (k : Int) = 2 * ((k / 2 : Nat) : Int) := by omega
  rw [W63_add a a, ← W63_addR, W63_mulL, W63_addR]
  have e2 : n + (a + a) * ((k / 2 : Nat) : Int) = n + a * (k : Int) := by rw [e1]; grind
  rw [e2]
theorem natAbs_tdiv2 (b : Int) : (b.tdiv 2).natAbs = b.natAbs / 2 := by rw [Int.natAbs_tdiv]; rfl
theorem tmod2 (b : Int) : (b.tmod 2 != 0) = decide (b.natAbs % 2 = 1) := by
  have h := Int.natAbs_tmod b 2
  have h2 : (b.tmod 2).natAbs = b.natAbs % 2 := h
  by_cases ho : b.natAbs % 2 = 1
  · rw [decide_eq_true ho, bne_iff_ne]; omega
  · rw [decide_eq_false ho]
    have : b.tmod 2 = 0 := by omega
    rw [this]; rfl


/-- what the product's loop keeps -/
def MulInv (a b a' b' n : Int) : Prop := W63 (n + a' * (b'.natAbs : Int)) = W63 (a * (b.natAbs : Int))
theorem MulInv.odd {a b a' b' n : Int} (h : MulInv a b a' b' n) (ho : b'.natAbs % 2 = 1) : MulInv a b (W63 (W63 a' + W63 a')) (b'.tdiv 2) (W63 (n + a')) := by
  unfold MulInv at *
  rw [natAbs_tdiv2, ← h, ← mul_odd n a' b'.natAbs ho]
theorem MulInv.even {a b a' b' n : Int} (h : MulInv a b a' b' n) (ho : b'.natAbs % 2 = 0) : MulInv a b (W63 (W63 a' + W63 a')) (b'.tdiv 2) n := by
  unfold MulInv at *
  rw [natAbs_tdiv2, ← h, ← mul_even n a' b'.natAbs ho]
theorem MulInv.plus {a b a' n : Int} (h : MulInv a b a' 0 n) (hb : 0 ≤ b) (n0 : -4611686018427387904 ≤ n) (n1 : n ≤ 4611686018427387903) : n = W63 (a * b) := by
  unfold MulInv at h
  have e : (b.natAbs : Int) = b := by omega
  rw [e] at h
  simp only [Int.natAbs_zero, Int.natCast_zero, Int.mul_zero, Int.add_zero] at h
  rw [← h, W63_in n0 n1]
theorem MulInv.minus {a b a' n : Int} (h : MulInv a b a' 0 n) (hb : b < 0) : W63 (-n) = W63 (a * b) := by
  unfold MulInv at h
  have e : (b.natAbs : Int) = -b := by omega
  rw [e] at h
  simp only [Int.natAbs_zero, Int.natCast_zero, Int.mul_zero, Int.add_zero] at h
  rw [← W63_neg, h, W63_neg, Int.mul_neg, Int.neg_neg]

set_option maxHeartbeats 1000000 in
theorem mul_any (a b : Int) (a0 : -4611686018427387904 ≤ a) (a1 : a ≤ 4611686018427387903) (b0 : -4611686018427387904 ≤ b) (b1 : b ≤ 4611686018427387903) (w : World) :
    Calls Tryd.prog 35 #[.int .i64 a, .int .i64 b] w fun e w' => e = .returned (.int .i64 (W63 (a * b))) ∧ w = w' := by
  by_cases hb : b < 0
  all_goals
    go_enter Tryd.func35, Tryd.ntmps35
    go_wp2
    go_loop [0, 1, 5] (fun va vb vn => ∃ a' b' n : Int, va = .int .i64 a' ∧ vb = .int .i64 b' ∧ vn = .int .i64 n ∧ -4611686018427387904 ≤ a' ∧ a' ≤ 4611686018427387903 ∧ -4611686018427387904 ≤ b' ∧ b' ≤ 4611686018427387903 ∧ -4611686018427387904 ≤ n ∧ n ≤ 4611686018427387903 ∧ MulInv a b a' b' n) (fun _ vb _ => (intOf vb).natAbs)
    case atStart => exact ⟨a, b, 0, rfl, rfl, rfl, a0, a1, b0, b1, by decide, by decide, by unfold MulInv; rw [Int.zero_add]⟩
    case round =>
      obtain ⟨a', b', n, rfl, rfl, rfl, x0, x1, y0, y1, n0, n1, H⟩ := hrel
      have q0 := W63_ge a'; have q1 := W63_le a'
      by_cases hz : b' = 0
      · subst hz
        go_wp2_with (first | (go_at_call 12; refine (RWrap_any _ ?_ ?_ _).mono ?_; omega; omega; rintro e w1 ⟨rfl, rfl⟩))
        go_ret
        first
          | exact ⟨ret_int (by simpa using H.minus hb), rfl⟩
          | exact ⟨ret_int (by simpa using H.plus (by omega) n0 n1), rfl⟩
      · have hz1 : (b' != 0) = true := by simpa using hz
        have hm : (b'.tdiv 2).natAbs < b'.natAbs := by rw [natAbs_tdiv2]; omega
        have hq : -4611686018427387904 ≤ b'.tdiv 2 ∧ b'.tdiv 2 ≤ 4611686018427387903 := by rw [natAbs_tdiv2] at hm; have := natAbs_tdiv2 b'; omega
        clear hz
        by_cases ho : b'.natAbs % 2 = 1
        · have ho1 : (b'.tmod 2 != 0) = true := by rw [tmod2]; exact decide_eq_true ho
          have H' := H.odd ho
          clear ho H
          go_wp2_with (first | (go_at_call 12; refine (RWrap_any _ ?_ ?_ _).mono ?_; omega; omega; rintro e w1 ⟨rfl, rfl⟩))
          go_round
          case rel => exact ⟨_, _, _, rfl, rfl, rfl, W63_ge _, W63_le _, hq.1, hq.2, W63_ge _, W63_le _, H'⟩
          case measure => simpa [intOf] using hm
        · have ho1 : (b'.tmod 2 != 0) = false := by rw [tmod2]; exact decide_eq_false ho
          have H' := H.even (by omega)
          clear ho H
          go_wp2_with (first | (go_at_call 12; refine (RWrap_any _ ?_ ?_ _).mono ?_; omega; omega; rintro e w1 ⟨rfl, rfl⟩))
          go_round
          case rel => exact ⟨_, _, _, rfl, rfl, rfl, W63_ge _, W63_le _, hq.1, hq.2, n0, n1, H'⟩
          case measure => simpa [intOf] using hm

end Go.Proofs.YtbeekiclmfcohaaDoor
