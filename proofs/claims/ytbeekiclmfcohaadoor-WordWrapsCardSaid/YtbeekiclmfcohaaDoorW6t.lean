/- Layer 1, walks: a number's text, the program's. -/
import Derived.Test.YtbeekiclmfcohaaDoorW6
namespace Go.Proofs.YtbeekiclmfcohaaDoor
open Go.RowKit

/-- word.Text -/
theorem Text_any (n : Int) (h0 : -9223372036854775808 ≤ n) (h1 : n ≤ 9223372036854775807) (w : World) (hE : Env w) :
    Calls Tryd.prog 27 #[.int .i64 n] w fun e w' => e = .returned (.string ⟨(Lib.itoa n).toArray⟩) ∧ Fr [] w w' := by
  have ht := hE.tab
  go_enter Tryd.func27, Tryd.ntmps27
  go_wp2_with (go_at_call 39; refine (Tryd.strconv_FormatInt_10 n h0 h1 _ ht).mono ?_)
  rintro e w1 ⟨rfl, hw⟩
  have hf := Fr.of_grow hw
  clear hw
  go_wp2
  go_ret
  exact ⟨rfl, hf⟩

end Go.Proofs.YtbeekiclmfcohaaDoor
