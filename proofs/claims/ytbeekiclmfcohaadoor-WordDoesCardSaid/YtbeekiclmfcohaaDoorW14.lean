/- Layer 1, walks: awake, do. -/
import Derived.Test.YtbeekiclmfcohaaDoorW2
import Derived.Test.YtbeekiclmfcohaaDoorW12
import Derived.Test.YtbeekiclmfcohaaDoorW13
import Derived.Test.YtbeekiclmfcohaaDoorW6t
namespace Go.Proofs.YtbeekiclmfcohaaDoor
open Go.RowKit

set_option maxRecDepth 100000 in
theorem kDo1 (w : World) : Calls Tryd.prog 23 #[.int .i64 4, .int .i64 (-7), .int .i64 2] w fun e w' => e = .returned (.tuple #[.int .i64 (-3), .int .i64 0]) ∧ Fr [] w w' := by
  have h := Do_any 4 (-7) 2 w
  rw [show doN 4 (W63 (-7)) (W63 2) = -3 by unfold doN W63; decide, show doE 4 (W63 2) = 0 by unfold doE W63; decide] at h
  exact h
theorem kDo2 (w : World) : Calls Tryd.prog 23 #[.int .i64 4, .int .i64 1, .int .i64 0] w fun e w' => e = .returned (.tuple #[.int .i64 0, .int .i64 2]) ∧ Fr [] w w' := by
  have h := Do_any 4 1 0 w
  rw [show doN 4 (W63 1) (W63 0) = 0 by unfold doN W63; decide, show doE 4 (W63 0) = 2 by unfold doE W63; decide] at h
  exact h
theorem kRead (w : World) (hE : Env w) : Calls Tryd.prog 25 #[.string ⟨#[49, 55]⟩] w fun e w' => e = .returned (.tuple #[.int .i64 17, .int .i64 0]) ∧ Fr [] w w' := by
  have h := Read_any ⟨#[49, 55]⟩ (by decide) w hE
  rw [show readN (⟨#[49, 55]⟩ : ByteArray).data.toList = 17 by decide +kernel, show readE (⟨#[49, 55]⟩ : ByteArray).data.toList = 0 by decide +kernel] at h
  exact h
theorem kUnq (w : World) : Calls Tryd.prog 29 #[.string ⟨#[34, 97, 92, 110, 34]⟩] w fun e w' => e = .returned (.tuple #[.string ⟨#[97, 10]⟩, .int .i64 0]) ∧ Fr [] w w' := by
  have h := Unquote_any ⟨#[34, 97, 92, 110, 34]⟩ (by decide) w
  rw [show unqT (⟨#[34, 97, 92, 110, 34]⟩ : ByteArray).data.toList = [97, 10] by decide +kernel, show unqE (⟨#[34, 97, 92, 110, 34]⟩ : ByteArray).data.toList = 0 by decide +kernel] at h
  exact h
theorem kQuo (w : World) : Calls Tryd.prog 31 #[.string ⟨#[97, 10]⟩] w fun e w' => e = .returned (.string ⟨#[34, 97, 92, 110, 34]⟩) ∧ Fr [] w w' := by
  have h := Quote_any ⟨#[97, 10]⟩ (by decide) w
  rw [show quoteL (⟨#[97, 10]⟩ : ByteArray).data.toList = [34, 97, 92, 110, 34] by decide +kernel] at h
  exact h
theorem kText (w : World) (hE : Env w) : Calls Tryd.prog 27 #[.int .i64 (-20)] w fun e w' => e = .returned (.string ⟨#[45, 50, 48]⟩) ∧ Fr [] w w' := by
  have h := Text_any (-20) (by decide) (by decide) w hE
  rw [show Lib.itoa (-20) = [45, 50, 48] by decide +kernel] at h
  exact h
theorem kWrap (w : World) : Calls Tryd.prog 11 #[.int .i64 4611686018427387904] w fun e w' => e = .returned (.int .i64 (-4611686018427387904)) ∧ w = w' := by
  have h := Wrap_any 4611686018427387904 w
  rw [show W63 4611686018427387904 = -4611686018427387904 by unfold W63; decide] at h
  exact h
theorem kOf5 (w : World) : Calls Tryd.prog 13 #[.int .i64 (-5)] w fun e w' => e = .returned (.int .u64 18446744073709551607) ∧ w = w' := by
  have h := Of_any (-5) w
  rw [show ofN (-5) = 18446744073709551607 by unfold ofN W63; decide] at h
  exact h
theorem kNum5 (w : World) : Calls Tryd.prog 15 #[.int .u64 18446744073709551607] w fun e w' => e = .returned (.int .i64 (-5)) ∧ w = w' := by
  have h := Num_any 18446744073709551607 (by decide) (by decide) w
  rw [show numN 18446744073709551607 = -5 by unfold numN; decide] at h
  exact h
theorem kOf3 (w : World) : Calls Tryd.prog 13 #[.int .i64 3] w fun e w' => e = .returned (.int .u64 7) ∧ w = w' := by
  have h := Of_any 3 w
  rw [show ofN 3 = 7 by unfold ofN W63; decide] at h
  exact h
theorem kIs7 (w : World) : Calls Tryd.prog 17 #[.int .u64 7] w fun e w' => e = .returned (.bool true) ∧ w = w' := by
  have h := IsNum_any 7 (by decide) (by decide) w
  rw [show isN 7 = true by unfold isN; decide] at h
  exact h
theorem kRef3 (w : World) : Calls Tryd.prog 19 #[.int .i64 3] w fun e w' => e = .returned (.int .u64 6) ∧ w = w' := by
  have h := Ref_any 3 w
  rw [show refN 3 = 6 by unfold refN; decide] at h
  exact h
theorem kIs6 (w : World) : Calls Tryd.prog 17 #[.int .u64 6] w fun e w' => e = .returned (.bool false) ∧ w = w' := by
  have h := IsNum_any 6 (by decide) (by decide) w
  rw [show isN 6 = false by unfold isN; decide] at h
  exact h
theorem kRef9 (w : World) : Calls Tryd.prog 19 #[.int .i64 9] w fun e w' => e = .returned (.int .u64 18) ∧ w = w' := by
  have h := Ref_any 9 w
  rw [show refN 9 = 18 by unfold refN; decide] at h
  exact h
theorem kAddr18 (w : World) : Calls Tryd.prog 21 #[.int .u64 18] w fun e w' => e = .returned (.int .i64 9) ∧ w = w' := by
  have h := Addr_any 18 (by decide) (by decide) w
  rw [show addrN 18 = 9 by unfold addrN; decide] at h
  exact h

set_option maxHeartbeats 1000000 in
set_option maxRecDepth 100000 in
theorem awake_any (w : World) (hE : Env w) :
    Calls Tryd.prog 10 #[] w fun e w' => e = .returned (.bool true) ∧ Fr [] w w' := by
  go_enter Tryd.func10, Tryd.ntmps10
  go_wp2_with fail
  refine (kDo1 _).mono ?_; rintro e w1 ⟨rfl, h1⟩; go_wp2_with fail
  refine (kDo2 _).mono ?_; rintro e w2 ⟨rfl, h2⟩; go_wp2_with fail
  refine (kRead _ ((hE.fr h1).fr h2)).mono ?_; rintro e w3 ⟨rfl, h3⟩; go_wp2_with fail
  refine (kUnq _).mono ?_; rintro e w4 ⟨rfl, h4⟩; go_wp2_with fail
  refine (kWrap _).mono ?_; rintro e w5 ⟨rfl, rfl⟩; go_wp2_with fail
  refine (kOf5 _).mono ?_; rintro e w5 ⟨rfl, rfl⟩; go_wp2_with fail
  refine (kNum5 _).mono ?_; rintro e w5 ⟨rfl, rfl⟩; go_wp2_with fail
  refine (kOf3 _).mono ?_; rintro e w5 ⟨rfl, rfl⟩; go_wp2_with fail
  refine (kIs7 _).mono ?_; rintro e w5 ⟨rfl, rfl⟩; go_wp2_with fail
  refine (kRef3 _).mono ?_; rintro e w5 ⟨rfl, rfl⟩; go_wp2_with fail
  refine (kIs6 _).mono ?_; rintro e w5 ⟨rfl, rfl⟩; go_wp2_with fail
  refine (kRef9 _).mono ?_; rintro e w5 ⟨rfl, rfl⟩; go_wp2_with fail
  refine (kAddr18 _).mono ?_; rintro e w5 ⟨rfl, rfl⟩; go_wp2_with fail
  have hE4 := (((hE.fr h1).fr h2).fr h3).fr h4
  refine (kText _ hE4).mono ?_; rintro e w6 ⟨rfl, h6⟩; go_wp2_with fail
  refine (kQuo _).mono ?_; rintro e w7 ⟨rfl, h7⟩; go_wp2_with fail
  go_ret
  exact ⟨rfl, ((((h1.trans h2).trans h3).trans h4).trans h6).trans h7⟩

set_option maxHeartbeats 400000 in
theorem do_any (op a b : Int) (w : World) :
    Calls Tryd.prog 33 #[.int .i64 op, .int .i64 a, .int .i64 b] w fun e w' => e = .returned (.int .i64 (doN op (W63 a) (W63 b))) ∧ Fr [] w w' := by
  go_enter Tryd.func33, Tryd.ntmps33
  go_wp2_with fail
  refine (Do_any op a b _).mono ?_; rintro e w1 ⟨rfl, h1⟩; go_wp2_with fail
  go_ret
  exact ⟨rfl, h1⟩
end Go.Proofs.YtbeekiclmfcohaaDoor
