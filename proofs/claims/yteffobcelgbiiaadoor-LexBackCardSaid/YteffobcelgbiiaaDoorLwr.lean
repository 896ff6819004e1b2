/- Layer 5: the rows and the cards of the five laws: what rows share. -/
import Derived.Test.YteffobcelgbiiaaDoorCards
import Derived.Test.YteffobcelgbiiaaDoorTie
import Derived.Test.YteffobcelgbiiaaDoorLw
import Derived.SizedLaws
import Derived.Shelf.Vars
import Derived.WalkKit
import Derived.ProofKit
import Derived.OpenShut
import Derived.LaidMore
import Derived.Carry
import Derived.Deep.DeepHandedRow
import Derived.Deep.DeepWitnessRowRef
import Derived.Lib.LaidTab
import Derived.Lib.LaidU8
import Derived.Stop.LaidErr
namespace Go.Proofs.YteffobcelgbiiaaDoor
open Go.ChangeShapes Go.WideShapes Go.ChangeAt Go.ChangeMaps Go.RowKit

theorem own : ownKnob Tryd.prog.godebug = none := by kernel_rfl
theorem i64_wf {n : Int} (h : (Lit.int .i64 n).wf = true) : -9223372036854775808 ≤ n ∧ n ≤ 9223372036854775807 := by
  simp only [Lit.wf, Bool.and_eq_true, decide_eq_true_eq] at h
  exact ⟨h.1, h.2⟩
theorem u64_wf {n : Int} (h : (Lit.int .u64 n).wf = true) : 0 ≤ n ∧ n < 18446744073709551616 := by
  simp only [Lit.wf, Bool.and_eq_true, decide_eq_true_eq] at h
  have h1 : n ≤ 18446744073709551615 := h.2
  exact ⟨h.1, by omega⟩
theorem u8_wf {n : Int} (h : (Lit.int .u8 n).wf = true) : 0 ≤ n ∧ n ≤ 255 := by
  simp only [Lit.wf, Bool.and_eq_true, decide_eq_true_eq] at h
  exact ⟨h.1, h.2⟩
theorem star : "*" ++ "errors.errorString" = "*errors.errorString" := by decide
theorem rowErr (u : TypeId) (h : Tryd.prog.typeName? 3 u = some "*errors.errorString") : u = 107 :=
  typeName_ptr_named (nm := "errors.errorString") (by rw [star]; kernel_rfl) (by kernel_rfl) (by decide) u (by rw [star]; exact h)
theorem gTabType : (Tryd.prog.globals[5]?).map (·.type) = some 117 := by kernel_rfl
theorem gRngType : (Tryd.prog.globals[2]?).map (·.type) = some 55 := by kernel_rfl
theorem cellsTab : Tryd.prog.cellsOf 117 = 20 := by kernel_rfl
theorem cellsU64 : Tryd.prog.cellsOf 86 = 1 := by kernel_rfl
theorem cellsErr : Tryd.prog.cellsOf 109 = 1 := by kernel_rfl
theorem cellsStr : Tryd.prog.cellsOf 9 = 1 := by kernel_rfl

/-- every world in which a call begins holds a block for each package-level variable -/
theorem vars_in {W : World} (h : W.ShapedOpen Tryd.prog) : Tryd.prog.globals.size ≤ W.heap.size := by
  have hb : (((begin Tryd.prog (fun _ _ => 0) default).world.heap[Tryd.prog.globals.size - 1]?).bind Obj.row?).isSome = true := by kernel_rfl
  obtain ⟨⟨z, t⟩, hz⟩ := Option.isSome_iff_exists.1 hb
  have hlt : Tryd.prog.globals.size - 1 < Tryd.prog.globals.size := of_decide_eq_true (by kernel_rfl)
  obtain ⟨cs, hcs, _⟩ := h.1 _ z t hlt hz
  have := (Array.getElem?_eq_some_iff.1 hcs).1
  omega

/-- what the list of laid variables gives -/
theorem env_of {W : World} (h : laidMetH Tryd.prog Rows.lexReadsRow.laid W) (hs : W.ShapedOpen Tryd.prog) : EnvL W := by
  rw [MakeChecks.laidMetH_plain _ _ _ (by kernel_rfl)] at h
  have h2 := h.tail.tail
  have h4 := h2.tail.tail
  obtain ⟨a, s, hv, _⟩ := laid_sentinel h4 gRng gRngType Tryd.underlying55 rowErr Tryd.underlying107 Tryd.underlying109 rfl rfl Tryd.underlying9 cellsErr cellsStr
  exact ⟨⟨vars_in hs, Lib.tabIs_of_head gTab gTabType Tryd.underlying117 Tryd.underlying86 cellsU64 cellsTab h2, _, _, hv⟩, Go.Proofs.cell_of_shapedOpen_int (t := 3) (zero := #[.int .i64 0]) hs nMax (by kernel_rfl) rfl (by kernel_rfl) (by kernel_rfl) Tryd.underlying3⟩

/-- the door's own heap, and the pinned table, meet the condition -/
noncomputable def doorW (os : Os) : World :=
  { World.doorLaid Tryd.prog 72 os with heap := (World.doorLaid Tryd.prog 72 os).heap.modify 3 fun
      | .cells _ t frozen => .cells (Lib.firstTab.map fun z => Value.int .u8 z).toArray t frozen
      | o => o }
theorem laid_met (os : Os) (args : Array Value) : laidMet Tryd.prog Rows.lexReadsRow.laid ((doorW os).forCall (fun _ _ => 0) ⟨#[], args, []⟩).memory :=
  laidMet_of_run' 8 (by kernel_rfl) (by kernel_rfl)
end Go.Proofs.YteffobcelgbiiaaDoor
