/- Maps with integer keys, whose entries are written out: what an insert and a look-up do. No program in sight. -/
import Derived.Test.YtbeekiclmfcohaaDoorFr
namespace Go.Proofs.YtbeekiclmfcohaaDoor
open Go.RowKit

theorem setObj_alloc (w : World) (o o' : Obj) : { (w.alloc o) with heap := (w.alloc o).heap.setIfInBounds w.heap.size o' } = w.alloc o' := by
  have h : (w.heap.push o).setIfInBounds w.heap.size o' = w.heap.push o' := by
    apply Array.ext
    · simp
    · intro i h1 h2
      rw [Array.getElem_setIfInBounds, Array.getElem_push, Array.getElem_push]
      · by_cases e : w.heap.size = i
        · rw [if_pos e, dif_neg (by omega)]
        · rw [if_neg e]
          simp at h2
          rw [dif_pos (by omega), dif_pos (by omega)]
      · simpa using h1
  show { w.alloc o with heap := (w.heap.push o).setIfInBounds w.heap.size o' } = { w with heap := w.heap.push o' }
  rw [h]; rfl

theorem run_checkKey_int {P : Program} {kt : TypeId} {k : IntKind} (hk : P.underlying kt = some (.int k)) (em : Bool) (n : Nat) (v : Value) (w : World) : (Instr.checkKey em (n + 1) kt v).run P w = .ok () w := by
  rw [Instr.checkKey]
  simp [run_underlying hk]

section
variable {P : Program} {T kt et : TypeId} (hT : P.underlying T = some (.map kt et)) (hk : P.underlying kt = some (.int .i64))
include hT hk

theorem run_insert_new (w : World) (es : Array MapEntry) (c : Nat) (n : Int) (v : Value) (hf : Instr.findNow (.int .i64) (.int .i64 n) es.toList 0 = some none) :
    (Instr.mapUpdate T (.map (some w.heap.size)) (.int .i64 n) v).run P (w.alloc (.map es c)) = .ok () (w.alloc (.map (es.push ⟨.int .i64 n, v, c⟩) (c + 1))) := by
  have hb : (w.alloc (.map es c)).heap[w.heap.size]? = some (.map es c) := heap_new w _
  have h2 := setObj_alloc w (.map es c) (.map (es.push ⟨.int .i64 n, v, c⟩) (c + 1))
  simp [Instr.mapUpdate, run_underlying hT, run_underlying hk, MapKept.run_getObj_map hb, MapKept.run_setObj_map _ hb, run_checkKey_int hk _ 9999, Instr.findKey, hf, Result.andThen]
  exact h2

theorem run_lookup_hit (w : World) (r : Nat) (es : Array MapEntry) (c : Nat) (hb : w.heap[r]? = some (.map es c)) (n : Int) (i : Nat) (v : Value) (hf : Instr.findNow (.int .i64) (.int .i64 n) es.toList 0 = some (some (i, v))) :
    (Instr.lookup T (.map (some r)) (.int .i64 n) true).run P w = .ok (.tuple #[v, .bool true]) w := by
  simp [Instr.lookup, run_underlying hT, run_underlying hk, MapKept.run_getObj_map hb, run_checkKey_int hk _ 9999, Instr.findKey, hf, Result.andThen]

theorem run_lookup_miss (w : World) (r : Nat) (es : Array MapEntry) (c : Nat) (hb : w.heap[r]? = some (.map es c)) (n : Int) (z : Value) (hf : Instr.findNow (.int .i64) (.int .i64 n) es.toList 0 = some none)
    (hz : (zeroValue et).run P w = .ok z w) :
    (Instr.lookup T (.map (some r)) (.int .i64 n) true).run P w = .ok (.tuple #[z, .bool false]) w := by
  simp [Instr.lookup, run_underlying hT, run_underlying hk, MapKept.run_getObj_map hb, run_checkKey_int hk _ 9999, Instr.findKey, hf, hz, Result.andThen]
end
end Go.Proofs.YtbeekiclmfcohaaDoor
