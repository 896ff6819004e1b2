/- Layer 5, walks: the sign that a text begins with. -/
import Derived.Test.YteffobcelgbiiaaDoorLs
namespace Go.Proofs.YteffobcelgbiiaaDoor
open Go.RowKit Go.Shelf
attribute [local go_sem] Oper.semAt_some

/-- does p begin s? -/
def pfxB (p s : List UInt8) : Bool := p.isPrefixOf s
theorem SlHasPrefix_any (s p : ByteArray) (hs : s.size ≤ 1000000) (w : World) :
    Calls Tryd.prog 61 #[.string s, .string p] w fun e w' => e = .returned (.bool (pfxB p.data.toList s.data.toList)) ∧ w = w' := by
  have hi := pfx_iff s p.data.toList
  rw [size_list] at hi
  have hb : pfxB p.data.toList s.data.toList = true ↔ p.size ≤ s.size ∧ ((s.extract 0 p.size).toList == p.data.toList) = true := by unfold pfxB; rw [List.isPrefixOf_iff_prefix]; exact hi
  by_cases hl : p.size ≤ s.size
  · have l1 : decide ((p.size : Int) ≤ (s.size : Int)) = true := decide_eq_true (by omega)
    have l2 : (p.size : Int) ≤ (s.size : Int) := by omega
    have he : pfxB p.data.toList s.data.toList = ((s.extract 0 p.size).toList == p.toList) := by
      rw [Bool.eq_iff_iff, hb, ByteArray.toList_eq p]; exact ⟨fun h => h.2, fun h => ⟨hl, h⟩⟩
    rw [he]
    clear hb hi he
    go_enter Tryd.func61, Tryd.ntmps61
    go_wp2_with fail
    go_ret
    exact ⟨rfl, rfl⟩
  · have l1 : decide ((p.size : Int) ≤ (s.size : Int)) = false := decide_eq_false (by omega)
    have l2 : ¬ (p.size : Int) ≤ (s.size : Int) := by omega
    have he : pfxB p.data.toList s.data.toList = false := by rw [Bool.eq_false_iff]; intro h; exact hl (hb.1 h).1
    rw [he]
    clear hb hi he
    go_enter Tryd.func61, Tryd.ntmps61
    go_wp2_with fail
    go_ret
    exact ⟨rfl, rfl⟩
theorem HasPrefix_any (s p : ByteArray) (hs : s.size ≤ 1000000) (w : World) :
    Calls Tryd.prog 44 #[.string s, .string p] w fun e w' => e = .returned (.bool (pfxB p.data.toList s.data.toList)) ∧ w = w' := by
  have c := Lib.hid (SlHasPrefix_any s p hs w)
  go_enter Tryd.func44, Tryd.ntmps44
  go_wp2_with fail
  refine c.out.mono ?_; rintro e x1 ⟨rfl, rfl⟩; go_wp2_with fail
  go_ret
  exact ⟨rfl, rfl⟩
def seqW (w : World) (s sep : ByteArray) : World := ((w.alloc (.cells #[.string s] 9)).alloc (.cells #[.string sep] 9)).alloc (.cells #[.int .i64 0] 3)
theorem splitSeq_any (s sep : ByteArray) (w : World) :
    Calls Tryd.prog 60 #[.string s, .string sep, .int .i64 0] w fun e w' => e = .returned (.func (.func 76) #[] #[.pointer (some ⟨w.heap.size + 1, 0, none⟩), .pointer (some ⟨w.heap.size, 0, none⟩), .pointer (some ⟨w.heap.size + 2, 0, none⟩)]) ∧ w' = seqW w s sep := by
  go_enter Tryd.func60, Tryd.ntmps60
  go_wp2_with fail
  go_ret
  exact ⟨rfl, rfl⟩
theorem SplitSeq_any (s sep : ByteArray) (w : World) :
    Calls Tryd.prog 43 #[.string s, .string sep] w fun e w' => e = .returned (.func (.func 76) #[] #[.pointer (some ⟨w.heap.size + 1, 0, none⟩), .pointer (some ⟨w.heap.size, 0, none⟩), .pointer (some ⟨w.heap.size + 2, 0, none⟩)]) ∧ w' = seqW w s sep := by
  go_enter Tryd.func43, Tryd.ntmps43
  go_wp2_with fail
  refine (splitSeq_any s sep w).mono ?_; rintro e x1 ⟨rfl, rfl⟩; go_wp2_with fail
  go_ret
  exact ⟨rfl, rfl⟩
theorem keep_cells {A B : World} {row : Option Nat} {k : Nat} {cs : Array Value} {T : TypeId} {fr : Nat × Nat} (h : A.heap[k]? = some (.cells cs T fr)) (hg : A.grownBy B row) (hr : ∀ r, row = some r → ∃ o : Obj, A.heap[r]? = some o ∧ o.isCells = false) : B.heap[k]? = some (.cells cs T fr) := by
  refine (hg.block k (Array.getElem?_eq_some_iff.1 h).1 ?_).trans h
  intro e
  obtain ⟨o, ho, hc⟩ := hr k e.symm
  rw [h] at ho
  cases ho
  cases hc
theorem find_last {p : List UInt8 → Bool} {l pre : List (List UInt8)} {x : List UInt8} (hp : pre ++ [x] <+: l) (hn : ∀ y ∈ pre, p y = false) (hx : p x = true) : l.find? p = some x := by
  obtain ⟨r, rfl⟩ := hp
  rw [List.append_assoc, List.find?_append, List.find?_eq_none.2 (fun y hy => by simp [hn y hy])]
  simp [hx]
theorem five_heap (w : World) (o1 o2 o3 o4 o5 : Obj) : let W0 := ((((w.alloc o1).alloc o2).alloc o3).alloc o4).alloc o5
    W0.heap[w.heap.size]? = some o1 ∧ W0.heap[w.heap.size + 1]? = some o2 ∧ W0.heap[w.heap.size + 1 + 1]? = some o3 ∧ W0.heap[w.heap.size + 1 + 1 + 1]? = some o4 ∧ W0.heap[w.heap.size + 1 + 1 + 2]? = some o5 ∧ Below w.heap.size w W0 := by
  have n1 := World.alloc_heap_new w o1
  have n2 := World.alloc_heap_new (w.alloc o1) o2
  have n3 := World.alloc_heap_new ((w.alloc o1).alloc o2) o3
  have n4 := World.alloc_heap_new (((w.alloc o1).alloc o2).alloc o3) o4
  have n5 := World.alloc_heap_new ((((w.alloc o1).alloc o2).alloc o3).alloc o4) o5
  simp only [World.size_alloc] at n2 n3 n4 n5
  have old : ∀ (V : World) (o : Obj) (k : Nat), k < V.heap.size → (V.alloc o).heap[k]? = V.heap[k]? := fun V o k h => Below.heap_alloc V o k h
  refine ⟨?_, ?_, ?_, ?_, n5, ?_⟩
  · rw [old _ _ _ (by simp only [World.size_alloc]; omega), old _ _ _ (by simp only [World.size_alloc]; omega), old _ _ _ (by simp only [World.size_alloc]; omega), old _ _ _ (by simp only [World.size_alloc]; omega)]; exact n1
  · rw [old _ _ _ (by simp only [World.size_alloc]; omega), old _ _ _ (by simp only [World.size_alloc]; omega), old _ _ _ (by simp only [World.size_alloc]; omega)]; exact n2
  · rw [old _ _ _ (by simp only [World.size_alloc]; omega), old _ _ _ (by simp only [World.size_alloc]; omega)]; exact n3
  · rw [old _ _ _ (by simp only [World.size_alloc]; omega)]; exact n4
  · exact (((((Below.refl _ w).alloc (Nat.le_refl _) _).alloc (by simp only [World.size_alloc]; omega) _).alloc (by simp only [World.size_alloc]; omega) _).alloc (by simp only [World.size_alloc]; omega) _).alloc (by simp only [World.size_alloc]; omega) _
def signOf (l : List UInt8) : List UInt8 := (signsL.find? (fun x => pfxB x l)).getD []

set_option maxHeartbeats 1000000 in
set_option maxRecDepth 100000 in
theorem sign_any (s : ByteArray) (hs : s.size ≤ 1000000) (w : World) :
    Calls Tryd.prog 27 #[.string s] w fun e w' => e = .returned (.string ⟨(signOf s.data.toList).toArray⟩) ∧ Below w.heap.size w w' := by
  refine (callsIn_wide (n := 3)).1 ?_
  refine callsIn_of_wp_marks Tryd.func27 rfl trivial ?_ rfl
  simp only [Tryd.ntmps27, List.size_toArray, List.length_cons, List.length_nil, Nat.reduceAdd, Nat.reduceSub, Array.replicate_succ, Array.replicate_zero, List.push_toArray, List.append_toArray, List.nil_append, List.cons_append]
  gi_wp2_with (refine ⟨trivial, ?_⟩; gi_at_call 43; refine (callsIn_wide.2 (SplitSeq_any _ _ _)).mono ?_; rintro e x1 ⟨rfl, rfl⟩)
  generalize hsv : (ByteArray.mk #[45, 62, 32, 58, 61, 32, 38, 38, 32, 124, 124, 32, 40, 32, 41, 32, 123, 32, 125, 32, 61, 32, 59, 32, 44, 32, 46, 32, 124, 32, 43, 32, 45, 32, 42, 32, 47, 32, 37, 32, 60, 32, 33]) = sv at *
  obtain ⟨W0, hW0⟩ : ∃ W0, seqW ((w.alloc (.cells #[.string s] 9)).alloc (.cells #[.string ⟨#[]⟩] 9)) sv ⟨#[32]⟩ = W0 := ⟨_, rfl⟩
  rw [hW0]
  have z0 : W0.heap.size = w.heap.size + 5 := by rw [← hW0]; simp only [seqW, World.size_alloc]
  have hf := five_heap w (.cells #[.string s] 9) (.cells #[.string ⟨#[]⟩] 9) (.cells #[.string sv] 9) (.cells #[.string ⟨#[32]⟩] 9) (.cells #[.int .i64 0] 3)
  simp only at hf
  unfold seqW at hW0
  rw [hW0] at hf
  obtain ⟨b0, b1, b2', b3, b4, bw⟩ := hf
  have hsv2 : sv = ⟨signsB.toArray⟩ := by rw [← hsv]; rfl
  have b2 : W0.heap[w.heap.size + 1 + 1]? = some (.cells #[strV signsB] 9 (0, 0)) := by rw [b2', hsv2]; rfl
  clear hsv hsv2 b2'
  refine range_cell (F := Fence.wide) (n := 3) rfl (by decide) (gf := 76) (lb := #[.pointer (some ⟨w.heap.size + 1 + 1 + 1, 0, none⟩), .pointer (some ⟨w.heap.size + 1 + 1, 0, none⟩), .pointer (some ⟨w.heap.size + 1 + 1 + 2, 0, none⟩)]) rfl trivial (enters_of Tryd.func76 (by kernel_rfl) rfl)
    (encs := fun x : List UInt8 => #[strV x]) (S := fun xs => xs = signsL) (Sp := fun pre => pre <+: signsL) (N := 20) (Bs := w.heap.size + 1 + 1) (by omega)
    (split_in 2 (by decide) (w.heap.size + 1 + 1) W0.heap.size (by omega) W0 b2 b3 b4) (fun _ => rfl)
    (fun pre W => W.heap[w.heap.size]? = some (.cells #[.string s] 9 (0, 0)) ∧ W.heap[w.heap.size + 1]? = some (.cells #[.string ⟨#[]⟩] 9 (0, 0)) ∧ Below w.heap.size w W ∧ ∀ y ∈ pre, pfxB y s.data.toList = false)
    (fun pre W => ∃ pre' x, pre = pre' ++ [x] ∧ (∀ y ∈ pre', pfxB y s.data.toList = false) ∧ pfxB x s.data.toList = true ∧ W.heap[w.heap.size + 1]? = some (.cells #[strV x] 9 (0, 0)) ∧ Below w.heap.size w W)
    (fun pre A B row hs hg hr => ⟨keep_cells hs.1 hg (fun r e => (hr r e).2), keep_cells hs.2.1 hg (fun r e => (hr r e).2), hs.2.2.1.grown hg hs.2.2.1.size (fun k e => by have := (hr k e).1; omega), hs.2.2.2⟩)
    (fun pre A v hs => ⟨(putObj_setCell_heap (by omega)).trans hs.1, (putObj_setCell_heap (by omega)).trans hs.2.1, hs.2.2.1.setCell (p := ⟨w.heap.size + 1 + 1, 0, none⟩) (by show w.heap.size ≤ w.heap.size + 1 + 1; omega) _, hs.2.2.2⟩)
    (fun pre A B row hs hg hr => by
      obtain ⟨pre', x, e, h1, h2, h3, h4⟩ := hs
      exact ⟨pre', x, e, h1, h2, keep_cells h3 hg (fun r e => (hr r e).2), h4.grown hg h4.size (fun k e => by have := (hr k e).1; omega)⟩)
    (fun pre A v hs => by
      obtain ⟨pre', x, e, h1, h2, h3, h4⟩ := hs
      exact ⟨pre', x, e, h1, h2, (putObj_setCell_heap (by omega)).trans h3, h4.setCell (p := ⟨w.heap.size + 1 + 1, 0, none⟩) (by show w.heap.size ≤ w.heap.size + 1 + 1; omega) _⟩)
    ⟨b0, b1, bw, fun _ h => by cases h⟩
    (fun x => { tmps := #[.string s, .pointer (some ⟨w.heap.size, 0, none⟩), .pointer (some ⟨w.heap.size + 1, 0, none⟩), strV x, .func (.func 76) #[] #[.pointer (some ⟨w.heap.size + 1 + 1 + 1, 0, none⟩), .pointer (some ⟨w.heap.size + 1 + 1, 0, none⟩), .pointer (some ⟨w.heap.size + 1 + 1 + 2, 0, none⟩)], strV x, undef, undef, undef, undef], defers := [] }) ?assign ?body ?done ?stop
  case assign =>
    intro l x W K hK
    gi_wp2
    exact hK
  case body =>
    rintro l pre x W ⟨h0, h1, h2, h3⟩ _
    have c0 : W.cell? ⟨w.heap.size, 0, none⟩ = some (.string s) := cell_of h0 0
    have f1 : W.frozen? ⟨w.heap.size + 1, 0, none⟩ = false := frozen_of h1 0
    have d1 : W.cell? ⟨w.heap.size + 1, 0, none⟩ = some (.string ⟨#[]⟩) := cell_of h1 0
    have hp := HasPrefix_any s ⟨x.toArray⟩ hs W
    have ex : pfxB (ByteArray.mk x.toArray).data.toList s.data.toList = pfxB x s.data.toList := rfl
    rw [ex] at hp
    unfold strV
    cases hx : pfxB x s.data.toList with
    | true =>
      rw [hx] at hp
      clear ex
      gi_wp2_with (refine ⟨trivial, ?_⟩; gi_at_call 44; refine (CallsIn.inRound l (callsIn_wide.2 hp)).mono ?_; rintro e x1 ⟨rfl, rfl⟩)
      exact ⟨KeepsOthers.setCell _ _ _, pre, x, ⟨rfl, rfl⟩, h3, hx, set_same h1 _, h2.setCell (p := ⟨w.heap.size + 1, 0, none⟩) (by show w.heap.size ≤ w.heap.size + 1; omega) _⟩
    | false =>
      rw [hx] at hp
      clear ex
      gi_wp2_with (refine ⟨trivial, ?_⟩; gi_at_call 44; refine (CallsIn.inRound l (callsIn_wide.2 hp)).mono ?_; rintro e x1 ⟨rfl, rfl⟩)
      refine ⟨KeepsOthers.refl _, Below.refl _ _, fun y hy => ?_⟩
      rcases hy with hy | rfl
      · exact h3 y hy
      · exact hx
  case done =>
    rintro D xs W hD rfl ⟨h0, h1, h2, h3⟩ hK
    have hr : signOf s.data.toList = [] := by
      unfold signOf
      rw [List.find?_eq_none.2 (fun y hy => by simp [h3 y hy])]; rfl
    have f1 : W.frozen? ⟨w.heap.size + 1, 0, none⟩ = false := frozen_of h1 0
    have d1 : W.cell? ⟨w.heap.size + 1, 0, none⟩ = some (.string ⟨#[]⟩) := cell_of h1 0
    gi_wp2
    have hK' := (KeepsOthers.setCell W ⟨w.heap.size + 1, 0, none⟩ (.string ⟨#[]⟩)).same D _ hK rfl
    refine ⟨by simp, .inl ⟨_, _, rfl, run_takeDeferred hK', ?_⟩⟩
    have hc5 := cell_kept (World.cell?_setCell_same' W ⟨w.heap.size + 1, 0, none⟩ (.string ⟨#[]⟩) (by rw [d1]; rfl)) (grownBy_putObj' _ D (.deferred none)) (fun r e => by cases e; exact ⟨_, hK', rfl⟩)
    refine ⟨.string ⟨#[]⟩, ?_, by rw [hr], ?_⟩
    · simp [results, Tryd.f27, go_sem, hc5]
    · exact (h2.setCell (p := ⟨w.heap.size + 1, 0, none⟩) (by show w.heap.size ≤ w.heap.size + 1; omega) _).grown (grownBy_putObj' _ D (.deferred none)) (h2.setCell (p := ⟨w.heap.size + 1, 0, none⟩) (by show w.heap.size ≤ w.heap.size + 1; omega) (.string ⟨#[]⟩)).size (fun k e => by cases e; omega)
  case stop =>
    rintro D pre W hD hp ⟨pre', x, rfl, h1, h2, h3, h4⟩ hK
    have hr : signOf s.data.toList = x := by
      unfold signOf
      rw [find_last hp h1 h2]; rfl
    have d1 : W.cell? ⟨w.heap.size + 1, 0, none⟩ = some (strV x) := cell_of h3 0
    gi_wp2
    refine ⟨by simp, .inl ⟨_, _, rfl, run_takeDeferred hK, ?_⟩⟩
    have hc5 := cell_kept d1 (grownBy_putObj' _ D (.deferred none)) (fun r e => by cases e; exact ⟨_, hK, rfl⟩)
    refine ⟨strV x, ?_, by rw [hr]; rfl, ?_⟩
    · simp [results, Tryd.f27, go_sem, hc5]
    · exact h4.grown (grownBy_putObj' _ D (.deferred none)) h4.size (fun k e => by cases e; omega)
end Go.Proofs.YteffobcelgbiiaaDoor
