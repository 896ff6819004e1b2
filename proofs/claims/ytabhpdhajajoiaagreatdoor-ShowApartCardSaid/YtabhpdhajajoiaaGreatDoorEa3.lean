/- A part of the proof: ShowApartF. -/
import Derived.Test.YtabhpdhajajoiaaGreatDoorCards
import Derived.Test.YtabhpdhajajoiaaGreatDoorTie
import Derived.SizedLaws
import Derived.WalkKit
import Derived.ProofKit
import Derived.Deep.DeepHandedRow
import Derived.Test.YtabhpdhajajoiaaGreatDoorEa1
namespace Go.Proofs.YtabhpdhajajoiaaGreatDoor
open Go.RowKit
set_option linter.all false
set_option maxHeartbeats 16000000
set_option maxRecDepth 100000
section
open Go.ChangeShapes Go.WideShapes Go.ChangeAt Go.ChangeMaps Go.RowKit
theorem N5:joinedFacts Tryz.pinned.checked.prog 6 Tryz.f6 (OpenSpec.ofChange Rows.showApartSpec).bare Rows.showApartRow=true:=by kernel_rfl
end
end Go.Proofs.YtabhpdhajajoiaaGreatDoor
