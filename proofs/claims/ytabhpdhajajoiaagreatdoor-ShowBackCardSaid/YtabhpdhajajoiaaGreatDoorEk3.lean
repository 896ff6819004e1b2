/- A part of the proof: ShowBackF. -/
import Derived.Test.YtabhpdhajajoiaaGreatDoorCards
import Derived.Test.YtabhpdhajajoiaaGreatDoorTie
import Derived.SizedLaws
import Derived.WalkKit
import Derived.ProofKit
import Derived.Deep.DeepHandedRow
import Derived.Test.YtabhpdhajajoiaaGreatDoorEk1
namespace Go.Proofs.YtabhpdhajajoiaaGreatDoor
open Go.RowKit
set_option linter.all false
set_option maxHeartbeats 16000000
set_option maxRecDepth 100000
section
open Go.ChangeShapes Go.WideShapes Go.ChangeAt Go.ChangeMaps Go.RowKit
theorem Qb:joinedFacts Tryz.pinned.checked.prog 4 Tryz.f4 (OpenSpec.ofChange Rows.showBackSpec).bare Rows.showBackRow=true:=by kernel_rfl
end
end Go.Proofs.YtabhpdhajajoiaaGreatDoor
