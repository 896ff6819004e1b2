/- Layer 1, walks: words and addresses. -/
import Derived.Test.YtbeekiclmfcohaaDoorW1
namespace Go.Proofs.YtbeekiclmfcohaaDoor
open Go.RowKit

def numN (x : Int) : Int := if x / 2 > 4611686018427387903 then x / 2 - 9223372036854775808 else x / 2
def isN (x : Int) : Bool := x % 2 == 1
def refN (a : Int) : Int := if a < 0 ∨ a > 2147483647 then 0 else a * 2
def addrN (x : Int) : Int := if x % 2 = 1 ∨ x / 2 > 2147483647 then 0 else x / 2
theorem num_spell (x : Int) (h0 : 0 ≤ x) (h1 : x < 18446744073709551616) : IntKind.i64.wrap x / 2 = numN x := by
  rw [IntKind.wrap_i64]; unfold numN; split <;> omega
theorem num_spell' (x : Int) (h0 : 0 ≤ x) (h1 : x < 18446744073709551616) : wrap64 x / 2 = numN x := by
  unfold wrap64 numN
  split <;> omega
theorem ref_out {a : Int} (h : a < 0 ∨ 2147483647 < a) : 0 = refN a := by unfold refN; rw [if_pos (by omega)]
theorem ref_in {a : Int} (h : 0 ≤ a) (h1 : 0 ≤ a ∧ a ≤ 2147483647) : a * 2 = refN a := by unfold refN; rw [if_neg (by omega)]
theorem addr_num {x : Int} (h : isN x = true) : 0 = addrN x := by unfold isN at h; unfold addrN; rw [if_pos (by left; simpa using h)]
theorem addr_big {x : Int} (h : 2147483647 < x / 2) : 0 = addrN x := by unfold addrN; rw [if_pos (by omega)]
theorem addr_in {x : Int} (_h0 : 0 ≤ x) (h : ¬ isN x = true) (h1 : x / 2 ≤ 2147483647) : x / 2 = addrN x := by
  unfold isN at h; unfold addrN; rw [if_neg (by simp at h; omega)]
theorem addr_in' {x : Int} (h0 : 0 ≤ x) (h : ¬ isN x = true) (h1 : x / 2 ≤ 2147483647) : wrap64 (x / 2) = addrN x := by
  rw [← addr_in h0 h h1]; unfold wrap64; omega
theorem of_spell' (n : Int) : bits .or .u64 (IntKind.u64.wrap (IntKind.u64.wrap n * 2)) 1 = ofN n := of_spell n

set_option maxHeartbeats 400000 in
theorem Of_any (n : Int) (w : World) :
    Calls Tryd.prog 13 #[.int .i64 n] w fun e w' => e = .returned (.int .u64 (ofN n)) ∧ w = w' := by
  go_enter Tryd.func13, Tryd.ntmps13
  go_wp2
  go_ret
  exact ⟨ret_int (of_spell' n), rfl⟩
set_option maxHeartbeats 400000 in
theorem Num_any (x : Int) (h0 : 0 ≤ x) (h1 : x < 18446744073709551616) (w : World) :
    Calls Tryd.prog 15 #[.int .u64 x] w fun e w' => e = .returned (.int .i64 (numN x)) ∧ w = w' := by
  have hs := Lib.hid (num_spell' x h0 h1)
  clear h0 h1
  go_enter Tryd.func15, Tryd.ntmps15
  go_wp2
  go_ret
  exact ⟨ret_int hs.out, rfl⟩
set_option maxHeartbeats 400000 in
theorem IsNum_any (x : Int) (h0 : 0 ≤ x) (h1 : x < 18446744073709551616) (w : World) :
    Calls Tryd.prog 17 #[.int .u64 x] w fun e w' => e = .returned (.bool (isN x)) ∧ w = w' := by
  have hs := and_one x h0 h1
  clear h0 h1
  go_enter Tryd.func17, Tryd.ntmps17
  go_wp2
  go_ret
  exact ⟨ret_bool (by unfold isN; rfl), rfl⟩
set_option maxHeartbeats 400000 in
theorem Ref_any (a : Int) (w : World) :
    Calls Tryd.prog 19 #[.int .i64 a] w fun e w' => e = .returned (.int .u64 (refN a)) ∧ w = w' := by
  go_enter Tryd.func19, Tryd.ntmps19
  go_wp2
  all_goals go_ret
  all_goals exact ⟨ret_int (by first | exact ref_out (by assumption) | exact ref_out (.inl (by assumption)) | exact ref_in (by assumption) (by assumption)), rfl⟩
set_option maxHeartbeats 400000 in
theorem Addr_any (x : Int) (h0 : 0 ≤ x) (h1 : x < 18446744073709551616) (w : World) :
    Calls Tryd.prog 21 #[.int .u64 x] w fun e w' => e = .returned (.int .i64 (addrN x)) ∧ w = w' := by
  have hs := Lib.hid (IsNum_any x h0 h1 w)
  have h0 := Lib.hid h0
  clear h1
  go_enter Tryd.func21, Tryd.ntmps21
  go_wp2_with fail
  refine hs.out.mono ?_
  rintro e w1 ⟨rfl, rfl⟩
  go_wp2_with fail
  all_goals go_ret
  · exact ⟨ret_int (addr_num (by assumption)), rfl⟩
  · exact ⟨ret_int (addr_big (by assumption)), rfl⟩
  · exact ⟨ret_int (addr_in h0.out (by assumption) (by assumption)), rfl⟩
set_option maxHeartbeats 400000 in
theorem ROf_any (n : Int) (h0 : -9223372036854775808 ≤ n) (h1 : n ≤ 9223372036854775807) (w : World) :
    Calls Tryd.prog 14 #[.int .i64 n] w fun e w' => e = .returned (.int .u64 (ofN n)) ∧ w = w' := by
  go_enter Tryd.func14, Tryd.ntmps14
  go_wp2_with fail
  refine (RWrap_any n h0 h1 _).mono ?_
  rintro e w1 ⟨rfl, rfl⟩
  go_wp2_with fail
  go_ret
  refine ⟨ret_int ?_, rfl⟩
  clear h0 h1
  unfold ofN W63
  simp only [IntKind.wrap_u64]
  omega
set_option maxHeartbeats 400000 in
theorem RNum_any (x : Int) (h0 : 0 ≤ x) (h1 : x < 18446744073709551616) (w : World) :
    Calls Tryd.prog 16 #[.int .u64 x] w fun e w' => e = .returned (.int .i64 (numN x)) ∧ w = w' := by
  go_enter Tryd.func16, Tryd.ntmps16
  go_wp2_with fail
  all_goals go_ret
  · refine ⟨ret_int ?_, rfl⟩
    unfold numN
    rw [if_pos (by omega)]
    omega
  · exact ⟨ret_int (by unfold numN; rw [if_neg (by omega)]), rfl⟩
set_option maxHeartbeats 400000 in
theorem RIsNum_any (x : Int) (h0 : 0 ≤ x) (h1 : x < 18446744073709551616) (w : World) :
    Calls Tryd.prog 18 #[.int .u64 x] w fun e w' => e = .returned (.bool (isN x)) ∧ w = w' := by
  go_enter Tryd.func18, Tryd.ntmps18
  go_wp2_with fail
  all_goals go_ret
  exact ⟨ret_bool (by unfold isN; rfl), rfl⟩
set_option maxHeartbeats 400000 in
theorem RAddr_any (x : Int) (h0 : 0 ≤ x) (h1 : x < 18446744073709551616) (w : World) :
    Calls Tryd.prog 22 #[.int .u64 x] w fun e w' => e = .returned (.int .i64 (addrN x)) ∧ w = w' := by
  go_enter Tryd.func22, Tryd.ntmps22
  go_wp2_with fail
  all_goals go_ret
  · exact ⟨ret_int (by unfold addrN; rw [if_pos (by omega)]), rfl⟩
  · exact ⟨ret_int (by unfold addrN; rw [if_pos (by rename_i h1 h2; simp at h2; omega)]), rfl⟩
  · exact ⟨ret_int (by unfold addrN; rw [if_neg (by rename_i h1 h2; simp at h2; omega)]), rfl⟩
set_option maxHeartbeats 400000 in
theorem RRef_any (a : Int) (w : World) :
    Calls Tryd.prog 20 #[.int .i64 a] w fun e w' => e = .returned (.int .u64 (refN a)) ∧ w = w' := by
  go_enter Tryd.func20, Tryd.ntmps20
  go_wp2_with fail
  all_goals go_ret
  all_goals exact ⟨ret_int (by first | exact ref_out (by assumption) | exact ref_out (.inl (by assumption)) | exact ref_in (by assumption) (by assumption)), rfl⟩
end Go.Proofs.YtbeekiclmfcohaaDoor
