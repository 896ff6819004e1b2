/- A part of the proof: ShowPatternsF. -/
import Derived.Test.YtabhpdhajajoiaaGreatDoorCards
import Derived.Test.YtabhpdhajajoiaaGreatDoorTie
import Derived.SizedLaws
import Derived.WalkKit
import Derived.ProofKit
import Derived.Deep.DeepHandedRow
import Derived.Test.YtabhpdhajajoiaaGreatDoorEp1
namespace Go.Proofs.YtabhpdhajajoiaaGreatDoor
open Go.RowKit
set_option linter.all false
set_option maxHeartbeats 16000000
set_option maxRecDepth 100000
section
open Go.ChangeShapes Go.WideShapes Go.ChangeAt Go.ChangeMaps Go.RowKit
theorem showPatterns_facts:joinedFacts Tryz.pinned.checked.prog 3 Tryz.f3 (OpenSpec.ofChange Rows.showPatternsSpec).bare Rows.showPatternsRow=true:=by kernel_rfl
end
end Go.Proofs.YtabhpdhajajoiaaGreatDoor
