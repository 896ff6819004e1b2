/- Layer 1, walks: the small functions on numbers and words, of the program and of its reference. -/
import Derived.Test.YtbeekiclmfcohaaDoorRows
import Derived.Test.YtbeekiclmfcohaaDoorWp
import Derived.Laws.BitsAllLaws
namespace Go.Proofs.YtbeekiclmfcohaaDoor
open Go.RowKit

/-- a number's word -/
def ofN (n : Int) : Int := (W63 n * 2 + 1) % 18446744073709551616
theorem or_one (x : Int) (h0 : 0 ≤ x) (h1 : x < 18446744073709551616) (he : x % 2 = 0) : bits .or .u64 x 1 = x + 1 := by
  rw [u64_or x 1 h0 h1 (by omega) (by omega)]
  have h2 : x.toNat ||| (1 : Int).toNat = x.toNat + 1 := nat_join 1 x.toNat 1 (by omega) (by decide)
  rw [h2]; omega
theorem of_spell (n : Int) : bits .or .u64 (IntKind.u64.wrap (IntKind.u64.wrap n * 2)) 1 = ofN n := by
  have e : IntKind.u64.wrap (IntKind.u64.wrap n * 2) = (n * 2) % 18446744073709551616 := by rw [IntKind.wrap_u64, IntKind.wrap_u64]; omega
  rw [e, or_one _ (by omega) (by omega) (by omega)]
  unfold ofN W63; omega
theorem and_one (x : Int) (h0 : 0 ≤ x) (h1 : x < 18446744073709551616) : bits .and .u64 x 1 = x % 2 := and_one_u64 x h0 (by omega)

set_option maxHeartbeats 400000 in
theorem Wrap_any (a : Int) (w : World) :
    Calls Tryd.prog 11 #[.int .i64 a] w fun e w' => e = .returned (.int .i64 (W63 a)) ∧ w = w' := by
  go_enter Tryd.func11, Tryd.ntmps11
  go_wp2
  go_ret
  exact ⟨ret_int (W63_shift a), rfl⟩

set_option maxHeartbeats 400000 in
theorem RWrap_any (a : Int) (h0 : -9223372036854775808 ≤ a) (h1 : a ≤ 9223372036854775807) (w : World) :
    Calls Tryd.prog 12 #[.int .i64 a] w fun e w' => e = .returned (.int .i64 (W63 a)) ∧ w = w' := by
  go_enter Tryd.func12, Tryd.ntmps12
  go_wp2
  all_goals go_ret
  all_goals exact ⟨ret_int (by unfold W63; omega), rfl⟩

end Go.Proofs.YtbeekiclmfcohaaDoor
