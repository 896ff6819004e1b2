/- A part of the proof: ShowCasesF. -/
import Derived.Test.YtabhpdhajajoiaaGreatDoorCards
import Derived.Test.YtabhpdhajajoiaaGreatDoorTie
import Derived.SizedLaws
import Derived.WalkKit
import Derived.ProofKit
import Derived.Deep.DeepHandedRow
import Derived.Test.YtabhpdhajajoiaaGreatDoorEc1
namespace Go.Proofs.YtabhpdhajajoiaaGreatDoor
open Go.RowKit
set_option linter.all false
set_option maxHeartbeats 16000000
set_option maxRecDepth 100000
section
open Go.ChangeShapes Go.WideShapes Go.ChangeAt Go.ChangeMaps Go.RowKit
theorem N9:joinedFacts Tryz.pinned.checked.prog 7 Tryz.f7 (OpenSpec.ofChange Rows.showCasesSpec).bare Rows.showCasesRow=true:=by kernel_rfl
end
end Go.Proofs.YtabhpdhajajoiaaGreatDoor
