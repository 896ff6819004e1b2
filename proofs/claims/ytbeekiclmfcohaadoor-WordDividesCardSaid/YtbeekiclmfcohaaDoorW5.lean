/- Layer 1, walks: the reference's Do. -/
import Derived.Test.YtbeekiclmfcohaaDoorW3
namespace Go.Proofs.YtbeekiclmfcohaaDoor
open Go.RowKit

theorem wrap64_ge (x : Int) : -9223372036854775808 ≤ wrap64 x := by unfold wrap64; omega
theorem wrap64_le (x : Int) : wrap64 x ≤ 9223372036854775807 := by unfold wrap64; omega
theorem RWrap_w64 (x : Int) (w : World) : Calls Tryd.prog 12 #[.int .i64 (wrap64 x)] w fun e w' => e = .returned (.int .i64 (W63 x)) ∧ w = w' := by
  have h := RWrap_any (wrap64 x) (wrap64_ge x) (wrap64_le x) w
  rw [W63_wrap64] at h
  exact h

theorem rem_spell (a b : Int) (_hb : W63 b ≠ 0) : wrap64 (W63 a - wrap64 (wrap64 ((W63 a).tdiv (W63 b)) * W63 b)) = (W63 a).tmod (W63 b) := by
  have a0 := W63_ge a; have a1 := W63_le a
  have q := tdiv_bd (b := W63 b) a0 a1
  have r := tmod_bd (b := W63 b) a0 a1
  have e := Int.tdiv_mul_add_tmod (W63 a) (W63 b)
  have e1 : wrap64 ((W63 a).tdiv (W63 b)) = (W63 a).tdiv (W63 b) := IntWalk.wrap64_in _ (by omega)
  have bd : -9223372036854775808 ≤ (W63 a).tdiv (W63 b) * W63 b ∧ (W63 a).tdiv (W63 b) * W63 b ≤ 9223372036854775807 := by omega
  rw [e1, IntWalk.wrap64_in _ bd]
  have e2 : W63 a - (W63 a).tdiv (W63 b) * W63 b = (W63 a).tmod (W63 b) := by omega
  rw [e2, IntWalk.wrap64_in _ (by omega)]

set_option maxHeartbeats 1000000 in
theorem RDo1 (a b : Int) (w : World)
    (ha : Hid (Calls Tryd.prog 12 #[.int .i64 a] w fun e w' => e = .returned (.int .i64 (W63 a)) ∧ w = w')) (hb : Hid (Calls Tryd.prog 12 #[.int .i64 b] w fun e w' => e = .returned (.int .i64 (W63 b)) ∧ w = w')) :
    Calls Tryd.prog 24 #[.int .i64 1, .int .i64 a, .int .i64 b] w fun e w' => e = .returned (.tuple #[.int .i64 (W63 (W63 a + W63 b)), .int .i64 (0)]) ∧ w = w' := by
  go_enter Tryd.func24, Tryd.ntmps24
  go_wp2_with fail
  refine ha.out.mono ?_
  rintro e w1 ⟨rfl, rfl⟩
  go_wp2_with fail
  refine hb.out.mono ?_
  rintro e w1 ⟨rfl, rfl⟩
  go_wp2_with (first | (go_at_call 12; refine (RWrap_w64 _ _).mono ?_; rintro e w1 ⟨rfl, rfl⟩) | (go_at_call 36; refine (Rtruth_any _ _).mono ?_; rintro e w1 ⟨rfl, rfl⟩) | (go_at_call 35; refine (mul_any _ _ (W63_ge _) (W63_le _) (W63_ge _) (W63_le _) _).mono ?_; rintro e w1 ⟨rfl, rfl⟩))
  all_goals go_ret2
  all_goals exact ⟨rfl, rfl⟩

set_option maxHeartbeats 1000000 in
theorem RDo2 (a b : Int) (w : World)
    (ha : Hid (Calls Tryd.prog 12 #[.int .i64 a] w fun e w' => e = .returned (.int .i64 (W63 a)) ∧ w = w')) (hb : Hid (Calls Tryd.prog 12 #[.int .i64 b] w fun e w' => e = .returned (.int .i64 (W63 b)) ∧ w = w')) :
    Calls Tryd.prog 24 #[.int .i64 2, .int .i64 a, .int .i64 b] w fun e w' => e = .returned (.tuple #[.int .i64 (W63 (W63 a - W63 b)), .int .i64 (0)]) ∧ w = w' := by
  go_enter Tryd.func24, Tryd.ntmps24
  go_wp2_with fail
  refine ha.out.mono ?_
  rintro e w1 ⟨rfl, rfl⟩
  go_wp2_with fail
  refine hb.out.mono ?_
  rintro e w1 ⟨rfl, rfl⟩
  go_wp2_with (first | (go_at_call 12; refine (RWrap_w64 _ _).mono ?_; rintro e w1 ⟨rfl, rfl⟩) | (go_at_call 36; refine (Rtruth_any _ _).mono ?_; rintro e w1 ⟨rfl, rfl⟩) | (go_at_call 35; refine (mul_any _ _ (W63_ge _) (W63_le _) (W63_ge _) (W63_le _) _).mono ?_; rintro e w1 ⟨rfl, rfl⟩))
  all_goals go_ret2
  all_goals exact ⟨rfl, rfl⟩

set_option maxHeartbeats 1000000 in
theorem RDo3 (a b : Int) (w : World)
    (ha : Hid (Calls Tryd.prog 12 #[.int .i64 a] w fun e w' => e = .returned (.int .i64 (W63 a)) ∧ w = w')) (hb : Hid (Calls Tryd.prog 12 #[.int .i64 b] w fun e w' => e = .returned (.int .i64 (W63 b)) ∧ w = w')) :
    Calls Tryd.prog 24 #[.int .i64 3, .int .i64 a, .int .i64 b] w fun e w' => e = .returned (.tuple #[.int .i64 (W63 (W63 a * W63 b)), .int .i64 (0)]) ∧ w = w' := by
  go_enter Tryd.func24, Tryd.ntmps24
  go_wp2_with fail
  refine ha.out.mono ?_
  rintro e w1 ⟨rfl, rfl⟩
  go_wp2_with fail
  refine hb.out.mono ?_
  rintro e w1 ⟨rfl, rfl⟩
  go_wp2_with (first | (go_at_call 12; refine (RWrap_w64 _ _).mono ?_; rintro e w1 ⟨rfl, rfl⟩) | (go_at_call 36; refine (Rtruth_any _ _).mono ?_; rintro e w1 ⟨rfl, rfl⟩) | (go_at_call 35; refine (mul_any _ _ (W63_ge _) (W63_le _) (W63_ge _) (W63_le _) _).mono ?_; rintro e w1 ⟨rfl, rfl⟩))
  all_goals go_ret2
  all_goals exact ⟨rfl, rfl⟩

set_option maxHeartbeats 1000000 in
theorem RDo4 (a b : Int) (hz : W63 b ≠ 0) (w : World)
    (ha : Hid (Calls Tryd.prog 12 #[.int .i64 a] w fun e w' => e = .returned (.int .i64 (W63 a)) ∧ w = w')) (hb : Hid (Calls Tryd.prog 12 #[.int .i64 b] w fun e w' => e = .returned (.int .i64 (W63 b)) ∧ w = w')) :
    Calls Tryd.prog 24 #[.int .i64 4, .int .i64 a, .int .i64 b] w fun e w' => e = .returned (.tuple #[.int .i64 (W63 ((W63 a).tdiv (W63 b))), .int .i64 (0)]) ∧ w = w' := by
  have z1 : ((W63 b : Int) == 0) = false := beq_eq_false_iff_ne.2 hz
  go_enter Tryd.func24, Tryd.ntmps24
  go_wp2_with fail
  refine ha.out.mono ?_
  rintro e w1 ⟨rfl, rfl⟩
  go_wp2_with fail
  refine hb.out.mono ?_
  rintro e w1 ⟨rfl, rfl⟩
  go_wp2_with (first | (go_at_call 12; refine (RWrap_w64 _ _).mono ?_; rintro e w1 ⟨rfl, rfl⟩) | (go_at_call 36; refine (Rtruth_any _ _).mono ?_; rintro e w1 ⟨rfl, rfl⟩) | (go_at_call 35; refine (mul_any _ _ (W63_ge _) (W63_le _) (W63_ge _) (W63_le _) _).mono ?_; rintro e w1 ⟨rfl, rfl⟩))
  all_goals go_ret2
  all_goals exact ⟨rfl, rfl⟩

set_option maxHeartbeats 1000000 in
theorem RDo4z (a b : Int) (hz : W63 b = 0) (w : World)
    (ha : Hid (Calls Tryd.prog 12 #[.int .i64 a] w fun e w' => e = .returned (.int .i64 (W63 a)) ∧ w = w')) (hb : Hid (Calls Tryd.prog 12 #[.int .i64 b] w fun e w' => e = .returned (.int .i64 (W63 b)) ∧ w = w')) :
    Calls Tryd.prog 24 #[.int .i64 4, .int .i64 a, .int .i64 b] w fun e w' => e = .returned (.tuple #[.int .i64 (0), .int .i64 (2)]) ∧ w = w' := by
  have z1 : ((W63 b : Int) == 0) = true := beq_iff_eq.2 hz
  clear hz
  go_enter Tryd.func24, Tryd.ntmps24
  go_wp2_with fail
  refine ha.out.mono ?_
  rintro e w1 ⟨rfl, rfl⟩
  go_wp2_with fail
  refine hb.out.mono ?_
  rintro e w1 ⟨rfl, rfl⟩
  go_wp2_with (first | (go_at_call 12; refine (RWrap_w64 _ _).mono ?_; rintro e w1 ⟨rfl, rfl⟩) | (go_at_call 36; refine (Rtruth_any _ _).mono ?_; rintro e w1 ⟨rfl, rfl⟩) | (go_at_call 35; refine (mul_any _ _ (W63_ge _) (W63_le _) (W63_ge _) (W63_le _) _).mono ?_; rintro e w1 ⟨rfl, rfl⟩))
  all_goals go_ret2
  all_goals exact ⟨rfl, rfl⟩

set_option maxHeartbeats 1000000 in
theorem RDo5 (a b : Int) (hz : W63 b ≠ 0) (w : World)
    (ha : Hid (Calls Tryd.prog 12 #[.int .i64 a] w fun e w' => e = .returned (.int .i64 (W63 a)) ∧ w = w')) (hb : Hid (Calls Tryd.prog 12 #[.int .i64 b] w fun e w' => e = .returned (.int .i64 (W63 b)) ∧ w = w')) :
    Calls Tryd.prog 24 #[.int .i64 5, .int .i64 a, .int .i64 b] w fun e w' => e = .returned (.tuple #[.int .i64 ((W63 a).tmod (W63 b)), .int .i64 (0)]) ∧ w = w' := by
  have z1 : ((W63 b : Int) == 0) = false := beq_eq_false_iff_ne.2 hz
  have HR := Lib.hid (rem_spell a b hz)
  go_enter Tryd.func24, Tryd.ntmps24
  go_wp2_with fail
  refine ha.out.mono ?_
  rintro e w1 ⟨rfl, rfl⟩
  go_wp2_with fail
  refine hb.out.mono ?_
  rintro e w1 ⟨rfl, rfl⟩
  go_wp2_with (first | (go_at_call 12; refine (RWrap_w64 _ _).mono ?_; rintro e w1 ⟨rfl, rfl⟩) | (go_at_call 36; refine (Rtruth_any _ _).mono ?_; rintro e w1 ⟨rfl, rfl⟩) | (go_at_call 35; refine (mul_any _ _ (W63_ge _) (W63_le _) (W63_ge _) (W63_le _) _).mono ?_; rintro e w1 ⟨rfl, rfl⟩))
  all_goals go_ret2
  all_goals exact ⟨ret_ints HR.out rfl, rfl⟩

set_option maxHeartbeats 1000000 in
theorem RDo5z (a b : Int) (hz : W63 b = 0) (w : World)
    (ha : Hid (Calls Tryd.prog 12 #[.int .i64 a] w fun e w' => e = .returned (.int .i64 (W63 a)) ∧ w = w')) (hb : Hid (Calls Tryd.prog 12 #[.int .i64 b] w fun e w' => e = .returned (.int .i64 (W63 b)) ∧ w = w')) :
    Calls Tryd.prog 24 #[.int .i64 5, .int .i64 a, .int .i64 b] w fun e w' => e = .returned (.tuple #[.int .i64 (0), .int .i64 (2)]) ∧ w = w' := by
  have z1 : ((W63 b : Int) == 0) = true := beq_iff_eq.2 hz
  clear hz
  go_enter Tryd.func24, Tryd.ntmps24
  go_wp2_with fail
  refine ha.out.mono ?_
  rintro e w1 ⟨rfl, rfl⟩
  go_wp2_with fail
  refine hb.out.mono ?_
  rintro e w1 ⟨rfl, rfl⟩
  go_wp2_with (first | (go_at_call 12; refine (RWrap_w64 _ _).mono ?_; rintro e w1 ⟨rfl, rfl⟩) | (go_at_call 36; refine (Rtruth_any _ _).mono ?_; rintro e w1 ⟨rfl, rfl⟩) | (go_at_call 35; refine (mul_any _ _ (W63_ge _) (W63_le _) (W63_ge _) (W63_le _) _).mono ?_; rintro e w1 ⟨rfl, rfl⟩))
  all_goals go_ret2
  all_goals exact ⟨rfl, rfl⟩

set_option maxHeartbeats 1000000 in
theorem RDo6 (a b : Int) (w : World)
    (ha : Hid (Calls Tryd.prog 12 #[.int .i64 a] w fun e w' => e = .returned (.int .i64 (W63 a)) ∧ w = w')) (hb : Hid (Calls Tryd.prog 12 #[.int .i64 b] w fun e w' => e = .returned (.int .i64 (W63 b)) ∧ w = w')) :
    Calls Tryd.prog 24 #[.int .i64 6, .int .i64 a, .int .i64 b] w fun e w' => e = .returned (.tuple #[.int .i64 (W63 (-(W63 a))), .int .i64 (0)]) ∧ w = w' := by
  go_enter Tryd.func24, Tryd.ntmps24
  go_wp2_with fail
  refine ha.out.mono ?_
  rintro e w1 ⟨rfl, rfl⟩
  go_wp2_with fail
  refine hb.out.mono ?_
  rintro e w1 ⟨rfl, rfl⟩
  go_wp2_with (first | (go_at_call 12; refine (RWrap_w64 _ _).mono ?_; rintro e w1 ⟨rfl, rfl⟩) | (go_at_call 36; refine (Rtruth_any _ _).mono ?_; rintro e w1 ⟨rfl, rfl⟩) | (go_at_call 35; refine (mul_any _ _ (W63_ge _) (W63_le _) (W63_ge _) (W63_le _) _).mono ?_; rintro e w1 ⟨rfl, rfl⟩))
  all_goals go_ret2
  all_goals exact ⟨ret_ints (by first | rfl | rw [Int.zero_sub]) rfl, rfl⟩

set_option maxHeartbeats 1000000 in
theorem RDo7t (a b : Int) (ht : (W63 a = W63 b)) (w : World)
    (ha : Hid (Calls Tryd.prog 12 #[.int .i64 a] w fun e w' => e = .returned (.int .i64 (W63 a)) ∧ w = w')) (hb : Hid (Calls Tryd.prog 12 #[.int .i64 b] w fun e w' => e = .returned (.int .i64 (W63 b)) ∧ w = w')) :
    Calls Tryd.prog 24 #[.int .i64 7, .int .i64 a, .int .i64 b] w fun e w' => e = .returned (.tuple #[.int .i64 (1), .int .i64 (0)]) ∧ w = w' := by
  have t1 : ((W63 a : Int) == W63 b) = true := by simpa using ht
  clear ht
  go_enter Tryd.func24, Tryd.ntmps24
  go_wp2_with fail
  refine ha.out.mono ?_
  rintro e w1 ⟨rfl, rfl⟩
  go_wp2_with fail
  refine hb.out.mono ?_
  rintro e w1 ⟨rfl, rfl⟩
  go_wp2_with (first | (go_at_call 12; refine (RWrap_w64 _ _).mono ?_; rintro e w1 ⟨rfl, rfl⟩) | (go_at_call 36; refine (Rtruth_any _ _).mono ?_; rintro e w1 ⟨rfl, rfl⟩) | (go_at_call 35; refine (mul_any _ _ (W63_ge _) (W63_le _) (W63_ge _) (W63_le _) _).mono ?_; rintro e w1 ⟨rfl, rfl⟩))
  all_goals go_ret2
  all_goals exact ⟨rfl, rfl⟩

set_option maxHeartbeats 1000000 in
theorem RDo7f (a b : Int) (ht : ¬ (W63 a = W63 b)) (w : World)
    (ha : Hid (Calls Tryd.prog 12 #[.int .i64 a] w fun e w' => e = .returned (.int .i64 (W63 a)) ∧ w = w')) (hb : Hid (Calls Tryd.prog 12 #[.int .i64 b] w fun e w' => e = .returned (.int .i64 (W63 b)) ∧ w = w')) :
    Calls Tryd.prog 24 #[.int .i64 7, .int .i64 a, .int .i64 b] w fun e w' => e = .returned (.tuple #[.int .i64 (0), .int .i64 (0)]) ∧ w = w' := by
  have t1 : ((W63 a : Int) == W63 b) = false := by simpa using ht
  clear ht
  go_enter Tryd.func24, Tryd.ntmps24
  go_wp2_with fail
  refine ha.out.mono ?_
  rintro e w1 ⟨rfl, rfl⟩
  go_wp2_with fail
  refine hb.out.mono ?_
  rintro e w1 ⟨rfl, rfl⟩
  go_wp2_with (first | (go_at_call 12; refine (RWrap_w64 _ _).mono ?_; rintro e w1 ⟨rfl, rfl⟩) | (go_at_call 36; refine (Rtruth_any _ _).mono ?_; rintro e w1 ⟨rfl, rfl⟩) | (go_at_call 35; refine (mul_any _ _ (W63_ge _) (W63_le _) (W63_ge _) (W63_le _) _).mono ?_; rintro e w1 ⟨rfl, rfl⟩))
  all_goals go_ret2
  all_goals exact ⟨rfl, rfl⟩

set_option maxHeartbeats 1000000 in
theorem RDo8t (a b : Int) (ht : (W63 a < W63 b)) (w : World)
    (ha : Hid (Calls Tryd.prog 12 #[.int .i64 a] w fun e w' => e = .returned (.int .i64 (W63 a)) ∧ w = w')) (hb : Hid (Calls Tryd.prog 12 #[.int .i64 b] w fun e w' => e = .returned (.int .i64 (W63 b)) ∧ w = w')) :
    Calls Tryd.prog 24 #[.int .i64 8, .int .i64 a, .int .i64 b] w fun e w' => e = .returned (.tuple #[.int .i64 (1), .int .i64 (0)]) ∧ w = w' := by
  have t1 : decide (W63 a < W63 b) = true := by simpa using ht
  clear ht
  go_enter Tryd.func24, Tryd.ntmps24
  go_wp2_with fail
  refine ha.out.mono ?_
  rintro e w1 ⟨rfl, rfl⟩
  go_wp2_with fail
  refine hb.out.mono ?_
  rintro e w1 ⟨rfl, rfl⟩
  go_wp2_with (first | (go_at_call 12; refine (RWrap_w64 _ _).mono ?_; rintro e w1 ⟨rfl, rfl⟩) | (go_at_call 36; refine (Rtruth_any _ _).mono ?_; rintro e w1 ⟨rfl, rfl⟩) | (go_at_call 35; refine (mul_any _ _ (W63_ge _) (W63_le _) (W63_ge _) (W63_le _) _).mono ?_; rintro e w1 ⟨rfl, rfl⟩))
  all_goals go_ret2
  all_goals exact ⟨rfl, rfl⟩

set_option maxHeartbeats 1000000 in
theorem RDo8f (a b : Int) (ht : ¬ (W63 a < W63 b)) (w : World)
    (ha : Hid (Calls Tryd.prog 12 #[.int .i64 a] w fun e w' => e = .returned (.int .i64 (W63 a)) ∧ w = w')) (hb : Hid (Calls Tryd.prog 12 #[.int .i64 b] w fun e w' => e = .returned (.int .i64 (W63 b)) ∧ w = w')) :
    Calls Tryd.prog 24 #[.int .i64 8, .int .i64 a, .int .i64 b] w fun e w' => e = .returned (.tuple #[.int .i64 (0), .int .i64 (0)]) ∧ w = w' := by
  have t1 : decide (W63 a < W63 b) = false := by simpa using ht
  clear ht
  go_enter Tryd.func24, Tryd.ntmps24
  go_wp2_with fail
  refine ha.out.mono ?_
  rintro e w1 ⟨rfl, rfl⟩
  go_wp2_with fail
  refine hb.out.mono ?_
  rintro e w1 ⟨rfl, rfl⟩
  go_wp2_with (first | (go_at_call 12; refine (RWrap_w64 _ _).mono ?_; rintro e w1 ⟨rfl, rfl⟩) | (go_at_call 36; refine (Rtruth_any _ _).mono ?_; rintro e w1 ⟨rfl, rfl⟩) | (go_at_call 35; refine (mul_any _ _ (W63_ge _) (W63_le _) (W63_ge _) (W63_le _) _).mono ?_; rintro e w1 ⟨rfl, rfl⟩))
  all_goals go_ret2
  all_goals exact ⟨rfl, rfl⟩

set_option maxHeartbeats 1000000 in
theorem RDo9t (a b : Int) (ht : (W63 a = 0)) (w : World)
    (ha : Hid (Calls Tryd.prog 12 #[.int .i64 a] w fun e w' => e = .returned (.int .i64 (W63 a)) ∧ w = w')) (hb : Hid (Calls Tryd.prog 12 #[.int .i64 b] w fun e w' => e = .returned (.int .i64 (W63 b)) ∧ w = w')) :
    Calls Tryd.prog 24 #[.int .i64 9, .int .i64 a, .int .i64 b] w fun e w' => e = .returned (.tuple #[.int .i64 (1), .int .i64 (0)]) ∧ w = w' := by
  have t1 : ((W63 a : Int) == 0) = true := by simpa using ht
  clear ht
  go_enter Tryd.func24, Tryd.ntmps24
  go_wp2_with fail
  refine ha.out.mono ?_
  rintro e w1 ⟨rfl, rfl⟩
  go_wp2_with fail
  refine hb.out.mono ?_
  rintro e w1 ⟨rfl, rfl⟩
  go_wp2_with (first | (go_at_call 12; refine (RWrap_w64 _ _).mono ?_; rintro e w1 ⟨rfl, rfl⟩) | (go_at_call 36; refine (Rtruth_any _ _).mono ?_; rintro e w1 ⟨rfl, rfl⟩) | (go_at_call 35; refine (mul_any _ _ (W63_ge _) (W63_le _) (W63_ge _) (W63_le _) _).mono ?_; rintro e w1 ⟨rfl, rfl⟩))
  all_goals go_ret2
  all_goals exact ⟨rfl, rfl⟩

set_option maxHeartbeats 1000000 in
theorem RDo9f (a b : Int) (ht : ¬ (W63 a = 0)) (w : World)
    (ha : Hid (Calls Tryd.prog 12 #[.int .i64 a] w fun e w' => e = .returned (.int .i64 (W63 a)) ∧ w = w')) (hb : Hid (Calls Tryd.prog 12 #[.int .i64 b] w fun e w' => e = .returned (.int .i64 (W63 b)) ∧ w = w')) :
    Calls Tryd.prog 24 #[.int .i64 9, .int .i64 a, .int .i64 b] w fun e w' => e = .returned (.tuple #[.int .i64 (0), .int .i64 (0)]) ∧ w = w' := by
  have t1 : ((W63 a : Int) == 0) = false := by simpa using ht
  clear ht
  go_enter Tryd.func24, Tryd.ntmps24
  go_wp2_with fail
  refine ha.out.mono ?_
  rintro e w1 ⟨rfl, rfl⟩
  go_wp2_with fail
  refine hb.out.mono ?_
  rintro e w1 ⟨rfl, rfl⟩
  go_wp2_with (first | (go_at_call 12; refine (RWrap_w64 _ _).mono ?_; rintro e w1 ⟨rfl, rfl⟩) | (go_at_call 36; refine (Rtruth_any _ _).mono ?_; rintro e w1 ⟨rfl, rfl⟩) | (go_at_call 35; refine (mul_any _ _ (W63_ge _) (W63_le _) (W63_ge _) (W63_le _) _).mono ?_; rintro e w1 ⟨rfl, rfl⟩))
  all_goals go_ret2
  all_goals exact ⟨rfl, rfl⟩

set_option maxHeartbeats 1000000 in
theorem RDo0 (a b : Int) (op : Int) (h : op < 1 ∨ 9 < op) (w : World)
    (ha : Hid (Calls Tryd.prog 12 #[.int .i64 a] w fun e w' => e = .returned (.int .i64 (W63 a)) ∧ w = w')) (hb : Hid (Calls Tryd.prog 12 #[.int .i64 b] w fun e w' => e = .returned (.int .i64 (W63 b)) ∧ w = w')) :
    Calls Tryd.prog 24 #[.int .i64 op, .int .i64 a, .int .i64 b] w fun e w' => e = .returned (.tuple #[.int .i64 (0), .int .i64 (1)]) ∧ w = w' := by
  have e1 : ((op : Int) == 1) = false := beq_eq_false_iff_ne.2 (by omega)
  have e2 : ((op : Int) == 2) = false := beq_eq_false_iff_ne.2 (by omega)
  have e3 : ((op : Int) == 3) = false := beq_eq_false_iff_ne.2 (by omega)
  have e4 : ((op : Int) == 4) = false := beq_eq_false_iff_ne.2 (by omega)
  have e5 : ((op : Int) == 5) = false := beq_eq_false_iff_ne.2 (by omega)
  have e6 : ((op : Int) == 6) = false := beq_eq_false_iff_ne.2 (by omega)
  have e7 : ((op : Int) == 7) = false := beq_eq_false_iff_ne.2 (by omega)
  have e8 : ((op : Int) == 8) = false := beq_eq_false_iff_ne.2 (by omega)
  have e9 : ((op : Int) == 9) = false := beq_eq_false_iff_ne.2 (by omega)
  clear h
  go_enter Tryd.func24, Tryd.ntmps24
  go_wp2_with fail
  refine ha.out.mono ?_
  rintro e w1 ⟨rfl, rfl⟩
  go_wp2_with fail
  refine hb.out.mono ?_
  rintro e w1 ⟨rfl, rfl⟩
  go_wp2_with (first | (go_at_call 12; refine (RWrap_w64 _ _).mono ?_; rintro e w1 ⟨rfl, rfl⟩) | (go_at_call 36; refine (Rtruth_any _ _).mono ?_; rintro e w1 ⟨rfl, rfl⟩) | (go_at_call 35; refine (mul_any _ _ (W63_ge _) (W63_le _) (W63_ge _) (W63_le _) _).mono ?_; rintro e w1 ⟨rfl, rfl⟩))
  all_goals go_ret2
  all_goals exact ⟨rfl, rfl⟩


/-- the reference's Do, at every operation and any two numbers -/
theorem RDo_any (op a b : Int) (ha0 : -9223372036854775808 ≤ a) (ha1 : a ≤ 9223372036854775807) (hb0 : -9223372036854775808 ≤ b) (hb1 : b ≤ 9223372036854775807) (w : World) :
    Calls Tryd.prog 24 #[.int .i64 op, .int .i64 a, .int .i64 b] w fun e w' => e = .returned (.tuple #[.int .i64 (doN op (W63 a) (W63 b)), .int .i64 (doE op (W63 b))]) ∧ w = w' := by
  have ha := Lib.hid (RWrap_any a ha0 ha1 w)
  have hb := Lib.hid (RWrap_any b hb0 hb1 w)
  by_cases h : op < 1 ∨ 9 < op
  · have e1 : doN op (W63 a) (W63 b) = 0 := by unfold doN; repeat rw [if_neg (by omega)]
    have e2 : doE op (W63 b) = 1 := by unfold doE; repeat rw [if_neg (by omega)]
    rw [e1, e2]
    exact RDo0 a b op h w ha hb
  · have h' : op = 1 ∨ op = 2 ∨ op = 3 ∨ op = 4 ∨ op = 5 ∨ op = 6 ∨ op = 7 ∨ op = 8 ∨ op = 9 := by omega
    rcases h' with rfl | rfl | rfl | rfl | rfl | rfl | rfl | rfl | rfl
    · have e1 : doN 1 (W63 a) (W63 b) = W63 (W63 a + W63 b) := by simp [doN]
      have e2 : doE 1 (W63 b) = 0 := by simp [doE]
      rw [e1, e2]; exact RDo1 a b w ha hb
    · have e1 : doN 2 (W63 a) (W63 b) = W63 (W63 a - W63 b) := by simp [doN]
      have e2 : doE 2 (W63 b) = 0 := by simp [doE]
      rw [e1, e2]; exact RDo2 a b w ha hb
    · have e1 : doN 3 (W63 a) (W63 b) = W63 (W63 a * W63 b) := by simp [doN]
      have e2 : doE 3 (W63 b) = 0 := by simp [doE]
      rw [e1, e2]; exact RDo3 a b w ha hb
    · by_cases hz : W63 b = 0
      · have e1 : doN 4 (W63 a) (W63 b) = 0 := by simp [doN, hz]
        have e2 : doE 4 (W63 b) = 2 := by simp [doE, hz]
        rw [e1, e2]; exact RDo4z a b hz w ha hb
      · have e1 : doN 4 (W63 a) (W63 b) = W63 ((W63 a).tdiv (W63 b)) := by simp [doN, hz]
        have e2 : doE 4 (W63 b) = 0 := by simp [doE, hz]
        rw [e1, e2]; exact RDo4 a b hz w ha hb
    · by_cases hz : W63 b = 0
      · have e1 : doN 5 (W63 a) (W63 b) = 0 := by simp [doN, hz]
        have e2 : doE 5 (W63 b) = 2 := by simp [doE, hz]
        rw [e1, e2]; exact RDo5z a b hz w ha hb
      · have e1 : doN 5 (W63 a) (W63 b) = (W63 a).tmod (W63 b) := by simp [doN, hz]
        have e2 : doE 5 (W63 b) = 0 := by simp [doE, hz]
        rw [e1, e2]; exact RDo5 a b hz w ha hb
    · have e1 : doN 6 (W63 a) (W63 b) = W63 (-(W63 a)) := by simp [doN]
      have e2 : doE 6 (W63 b) = 0 := by simp [doE]
      rw [e1, e2]; exact RDo6 a b w ha hb
    all_goals
      first
      | (by_cases ht : W63 a = W63 b
         · have e1 : doN 7 (W63 a) (W63 b) = 1 := by unfold doN; simp [ht]
           have e2 : doE 7 (W63 b) = 0 := by simp [doE]
           rw [e1, e2]; exact RDo7t a b ht w ha hb
         · have e1 : doN 7 (W63 a) (W63 b) = 0 := by unfold doN; simp [ht]
           have e2 : doE 7 (W63 b) = 0 := by simp [doE]
           rw [e1, e2]; exact RDo7f a b ht w ha hb)
      | (by_cases ht : W63 a < W63 b
         · have e1 : doN 8 (W63 a) (W63 b) = 1 := by unfold doN; simp [ht]
           have e2 : doE 8 (W63 b) = 0 := by simp [doE]
           rw [e1, e2]; exact RDo8t a b ht w ha hb
         · have e1 : doN 8 (W63 a) (W63 b) = 0 := by unfold doN; simp [ht]
           have e2 : doE 8 (W63 b) = 0 := by simp [doE]
           rw [e1, e2]; exact RDo8f a b ht w ha hb)
      | (by_cases ht : W63 a = 0
         · have e1 : doN 9 (W63 a) (W63 b) = 1 := by unfold doN; simp [ht]
           have e2 : doE 9 (W63 b) = 0 := by simp [doE]
           rw [e1, e2]; exact RDo9t a b ht w ha hb
         · have e1 : doN 9 (W63 a) (W63 b) = 0 := by unfold doN; simp [ht]
           have e2 : doE 9 (W63 b) = 0 := by simp [doE]
           rw [e1, e2]; exact RDo9f a b ht w ha hb)

end Go.Proofs.YtbeekiclmfcohaaDoor
