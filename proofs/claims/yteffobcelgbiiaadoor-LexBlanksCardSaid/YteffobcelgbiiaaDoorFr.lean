/- A frame with a footprint: 'Fr L w w'': of what lay in w nothing has turned but, maybe, the blocks that L lists. Plain lemmas; no program in sight. -/
import Derived.WalkKit
import Derived.WalkSpells
import Derived.WalkLawsBesides
import Derived.Sort.Grow
import Derived.Lib.Hide
namespace Go.Proofs.YteffobcelgbiiaaDoor
open Go.RowKit

structure Fr (L : List Nat) (w w' : World) : Prop where
  os : w'.os = w.os
  tape : w'.tape = w.tape
  output : w'.output = w.output
  size : w.heap.size ≤ w'.heap.size
  block : ∀ k, k < w.heap.size → k ∉ L → w'.heap[k]? = w.heap[k]?

theorem Fr.refl (L : List Nat) (w : World) : Fr L w w := ⟨rfl, rfl, rfl, Nat.le_refl _, fun _ _ _ => rfl⟩

theorem Fr.step {L L' : List Nat} {a b c : World} (h : Fr L a b) (k : Fr L' b c) (hL : ∀ x ∈ L', x ∈ L ∨ a.heap.size ≤ x) : Fr L a c :=
  ⟨k.os.trans h.os, k.tape.trans h.tape, k.output.trans h.output, Nat.le_trans h.size k.size, fun i hi hn =>
    (k.block i (Nat.lt_of_lt_of_le hi h.size) (fun hx => (hL i hx).elim hn (fun h' => by omega))).trans (h.block i hi hn)⟩

theorem Fr.trans {L : List Nat} {a b c : World} (h : Fr L a b) (k : Fr L b c) : Fr L a c := h.step k fun _ hx => .inl hx

theorem Fr.trans0 {L : List Nat} {a b c : World} (h : Fr L a b) (k : Fr [] b c) : Fr L a c := h.step k fun _ hx => by cases hx

theorem Fr.mono {L L' : List Nat} {a b : World} (h : Fr L a b) (hL : ∀ x ∈ L, x ∈ L' ∨ a.heap.size ≤ x) : Fr L' a b :=
  ⟨h.os, h.tape, h.output, h.size, fun i hi hn => h.block i hi (fun hx => (hL i hx).elim hn (fun h' => by omega))⟩

theorem Fr.drew {L : List Nat} {a w : World} (h : Fr L a w) : Fr L a w.drew := ⟨h.os, h.tape, h.output, h.size, h.block⟩

theorem Fr.drewN {L : List Nat} {a w : World} (h : Fr L a w) (n : Nat) : Fr L a (w.drewN n) := h.trans ⟨rfl, rfl, rfl, Nat.le_refl _, fun _ _ _ => rfl⟩

theorem Fr.alloc {L : List Nat} {a w : World} (h : Fr L a w) (o : Obj) : Fr L a (w.alloc o) :=
  h.trans ⟨rfl, rfl, rfl, by simp, fun k hk _ => Below.heap_alloc _ _ _ hk⟩

theorem Fr.setCell {L : List Nat} {a w : World} (h : Fr L a w) {p : Addr} (hp : p.block ∈ L ∨ a.heap.size ≤ p.block) (u : Value) : Fr L a (w.setCell p u) :=
  h.step (L' := [p.block]) ⟨rfl, rfl, rfl, by simp [World.setCell], fun k _ hk => Below.heap_setCell _ _ _ _ (fun e => hk (by simp [e]))⟩ (fun x hx => by simp at hx; subst hx; exact hp)

theorem Fr.grown {L : List Nat} {a w w' : World} {row : Option Nat} (h : Fr L a w) (hg : w.grownBy w' row) (hr : ∀ k, row = some k → k ∈ L ∨ a.heap.size ≤ k) : Fr L a w' :=
  h.step (L' := row.toList) ⟨hg.os, hg.tape, hg.output, hg.size, fun k hk hn => hg.block k hk (fun e => hn (by rw [← e]; simp))⟩
    (fun x hx => hr x (by cases row with | none => simp at hx | some y => simp at hx; rw [hx]))

theorem Fr.of_below {w w' : World} (h : Below w.heap.size w w') : Fr [] w w' := ⟨h.os, h.tape, h.output, h.size, fun k hk _ => h.block k hk⟩

theorem Fr.below {L : List Nat} {B : Nat} {w w' : World} (h : Fr L w w') (hB : B ≤ w.heap.size) (hL : ∀ x ∈ L, B ≤ x) : Below B w w' :=
  ⟨h.os, h.tape, h.output, h.size, fun k hk => h.block k (by omega) (fun hx => by have := hL k hx; omega)⟩

theorem Fr.below0 {w w' : World} (h : Fr [] w w') : Below w.heap.size w w' := h.below (Nat.le_refl _) (fun _ hx => by cases hx)

theorem Fr.cell {L : List Nat} {w w' : World} (h : Fr L w w') {p : Addr} (hp : p.block < w.heap.size) (hn : p.block ∉ L) : w'.cell? p = w.cell? p := World.cell?_of_block (w := w) (h.block p.block hp hn)

theorem Fr.frozen {L : List Nat} {w w' : World} (h : Fr L w w') {p : Addr} (hp : p.block < w.heap.size) (hn : p.block ∉ L) : w'.frozen? p = w.frozen? p := World.frozen?_of_block (w := w) (h.block p.block hp hn)

/-- A block that is there stays. -/
theorem Fr.keep {L : List Nat} {w w' : World} (h : Fr L w w') {k : Nat} {o : Obj} (hk : w.heap[k]? = some o) (hn : k ∉ L) : w'.heap[k]? = some o :=
  (h.block k (Array.getElem?_eq_some_iff.1 hk).1 hn).trans hk

theorem lt_of_heap {w : World} {k : Nat} {o : Obj} (hk : w.heap[k]? = some o) : k < w.heap.size := (Array.getElem?_eq_some_iff.1 hk).1

theorem Fr.grow (L : List Nat) (w : World) (os : Array Obj) : Fr L w (Sort.grow w os) :=
  ⟨rfl, rfl, rfl, by simp [Sort.grow], fun k hk _ => by simp [Sort.grow, Array.getElem?_append, hk]⟩

/-- Some draws, and new blocks behind them: what the library's contracts say of the world. -/
theorem Fr.of_grow {w w' : World} (h : ∃ k os, w' = Sort.grow (w.drewN k) os) : Fr [] w w' := by
  obtain ⟨k, os, rfl⟩ := h
  exact ((Fr.refl [] w).drewN k).trans (Fr.grow [] _ os)

theorem heap_new (w : World) (o : Obj) : (w.alloc o).heap[w.heap.size]? = some o := heap_alloc_new w o
theorem heap_old {w : World} {k : Nat} {o : Obj} (h : w.heap[k]? = some o) (o' : Obj) : (w.alloc o').heap[k]? = some o := (heap_alloc_old w o' (lt_of_heap h)).trans h

theorem cell_of {w : World} {b : Nat} {cs : Array Value} {T : TypeId} {fr : Nat × Nat} (hb : w.heap[b]? = some (.cells cs T fr)) (j : Nat) : w.cell? ⟨b, j, none⟩ = cs[j]? := by simp [World.cell?, hb]
theorem frozen_of {w : World} {b : Nat} {cs : Array Value} {T : TypeId} (hb : w.heap[b]? = some (.cells cs T (0, 0))) (j : Nat) : w.frozen? ⟨b, j, none⟩ = false := by simp [World.frozen?, hb]

theorem ret_int {k : IntKind} {a b : Int} (h : a = b) : Ending.returned (.int k a) = .returned (.int k b) := by rw [h]
theorem ret_bool {a b : Bool} (h : a = b) : Ending.returned (.bool a) = .returned (.bool b) := by rw [h]
theorem ret_ints {j k : IntKind} {a b c d : Int} (h : a = b) (h' : c = d) : Ending.returned (.tuple #[.int j a, .int k c]) = .returned (.tuple #[.int j b, .int k d]) := by rw [h, h']
theorem ret_str {l m : List UInt8} (h : l = m) : Ending.returned (.string ⟨l.toArray⟩) = .returned (.string ⟨m.toArray⟩) := by rw [h]

/-- the bytes of a string, and back -/
theorem mk_list (s : ByteArray) : (⟨s.data.toList.toArray⟩ : ByteArray) = s := by cases s; simp
theorem size_list (s : ByteArray) : s.data.toList.length = s.size := rfl
end Go.Proofs.YteffobcelgbiiaaDoor
