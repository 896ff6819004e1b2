/- A part of the proof: ResolveBoundF. -/
import Derived.Test.YtlafbbnikgcdlaaGreatDoorCards
import Derived.Test.YtlafbbnikgcdlaaGreatDoorTie
import Derived.SizedLaws
import Derived.WalkKit
import Derived.ProofKit
import Derived.Deep.DeepHandedRow
import Derived.Test.YtlafbbnikgcdlaaGreatDoorKb0
namespace Go.Proofs.YtlafbbnikgcdlaaGreatDoor
open Go.RowKit
set_option linter.all false
set_option maxHeartbeats 16000000
set_option maxRecDepth 100000
variable{p:Prop}
section
open Go.ChangeShapes Go.WideShapes Go.ChangeAt Go.ChangeMaps Go.RowKit
theorem N9:joinedFacts Tryz.pinned.checked.prog 5 Tryz.f5 (OpenSpec.ofChange Rows.resolveBoundSpec).bare Rows.resolveBoundRow=true:=by kernel_rfl
end
end Go.Proofs.YtlafbbnikgcdlaaGreatDoor
