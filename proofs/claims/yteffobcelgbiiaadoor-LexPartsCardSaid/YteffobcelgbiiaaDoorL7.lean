/- Layer 5, walks: the reference's token at a place: numbers, quoted texts, signs. -/
import Derived.Test.YteffobcelgbiiaaDoorL6
namespace Go.Proofs.YteffobcelgbiiaaDoor
open Go.RowKit

set_option maxHeartbeats 1000000 in
set_option maxRecDepth 100000 in
theorem Rone_digit (s : ByteArray) (hs : s.size ≤ 1000000) (k : Nat) (hk : k < s.size) (h1 : isDig s[k] = true) (w : World) (hE : EnvL w) :
    Calls Tryd.prog 16 #[.string s, .int .i64 k] w fun e w' => oneOk (tok (s.data.toList.drop k)) k k e ∧ Fr [] w w' := by
  have hd := (isDig_iff s[k]).1 h1
  have n1 : smallB s[k] = false := by rw [← smallI_byte, Bool.eq_false_iff]; intro h; simp [smallI] at h; omega
  have n2 : greatB s[k] = false := by rw [← greatI_byte, Bool.eq_false_iff]; intro h; simp [greatI] at h; omega
  have n3 : s[k] ≠ 35 := by intro h; rw [h] at hd; exact absurd hd (by decide)
  have ht : tok (s.data.toList.drop k) = (if readE (runL (s.data.toList.drop k)) = 0 then .ok (4, [], readN (runL (s.data.toList.drop k)), (runL (s.data.toList.drop k)).length) else .error (if readE (runL (s.data.toList.drop k)) = 5 then 20 else readE (runL (s.data.toList.drop k)))) := by
    rw [drop_head s k hk, tok, if_neg (by simp [n1]), if_neg (by simp [n2]), if_neg (fun h => n3 h.1), if_pos h1]
  rw [ht]
  obtain ⟨hl, h95⟩ := not_small n1
  have cl := fun w => Lib.hid (letter_low s[k] w)
  have cg := fun w => Lib.hid (letter_great s[k] w)
  have b35 : (((s[k].toNat : Nat) : Int) == 35) = false := byte_ne (n := 35) (by omega) n3
  have cd := fun w => Lib.hid (letter_dig s[k] w)
  have hrb := runEnd_bd s k (by omega)
  have hre := ext_run s k
  have hlen : runEnd s k = k + (runL (s.data.toList.drop k)).length := rfl
  have cr := fun w => Lib.hid (Rrun_any s hs k (by omega) w)
  generalize runL (s.data.toList.drop k) = X at *
  generalize runEnd s k = E at *
  have HRE := Lib.hid hre
  have HL := Lib.hid hlen
  have q1 : 0 ≤ (k : Int) ∧ (k : Int) ≤ (E : Int) ∧ (E : Int) ≤ (s.size : Int) := by omega
  have hxe : (s.extract k E).data.toList = X := by rw [hre]
  have cd2 := fun w => Lib.hid (RRead_any (s.extract k E) (by rw [← size_list, hxe]; omega) w)
  rw [hxe] at cd2
  have hcase := readE_cases X
  clear ht n1 n3 hd hre hlen hxe
  rcases hcase with hc | hc | hc
  ·
    rw [if_pos hc]
    rw [hc] at cd2
    go_enter Tryd.func16, Tryd.ntmps16
    go_wp2_with fail
    have f0 : Fr [] w ((w.alloc (.cells #[.int .i64 0, .int .i64 0, .string ⟨#[]⟩, .int .i64 0] 31)).alloc (.cells #[.int .i64 0, .int .i64 k, .string ⟨#[]⟩, .int .i64 0] 31)) := ((Fr.refl [] w).alloc _).alloc _
    have g0 : ((w.alloc (.cells #[.int .i64 0, .int .i64 0, .string ⟨#[]⟩, .int .i64 0] 31)).alloc (.cells #[.int .i64 0, .int .i64 k, .string ⟨#[]⟩, .int .i64 0] 31)).heap[w.heap.size]? = some (.cells #[.int .i64 0, .int .i64 0, .string ⟨#[]⟩, .int .i64 0] 31 (0, 0)) := heap_old (heap_new w _) _
    have g1 : ((w.alloc (.cells #[.int .i64 0, .int .i64 0, .string ⟨#[]⟩, .int .i64 0] 31)).alloc (.cells #[.int .i64 0, .int .i64 k, .string ⟨#[]⟩, .int .i64 0] 31)).heap[w.heap.size + 1]? = some (.cells #[.int .i64 0, .int .i64 k, .string ⟨#[]⟩, .int .i64 0] 31 (0, 0)) := by
      have := heap_new (w.alloc (.cells #[.int .i64 0, .int .i64 0, .string ⟨#[]⟩, .int .i64 0] 31)) (.cells #[.int .i64 0, .int .i64 k, .string ⟨#[]⟩, .int .i64 0] 31)
      rw [World.size_alloc] at this
      exact this
    generalize ((w.alloc (.cells #[.int .i64 0, .int .i64 0, .string ⟨#[]⟩, .int .i64 0] 31)).alloc (.cells #[.int .i64 0, .int .i64 k, .string ⟨#[]⟩, .int .i64 0] 31)) = w1 at *
    have hBw : w.heap.size ≤ w.heap.size := Nat.le_refl _
    generalize hB : w.heap.size = B at g0 g1 hBw ⊢
    refine (cl _).out.mono ?_; rintro e x1 ⟨rfl, rfl⟩; go_wp2_with fail
    refine (cg _).out.mono ?_; rintro e x1 ⟨rfl, rfl⟩; go_wp2_with fail
    refine (cd _).out.mono ?_; rintro e x1 ⟨rfl, rfl⟩; go_wp2_with fail
    refine (cr _).out.mono ?_; rintro e x1 ⟨rfl, rfl⟩; go_wp2_with fail
    refine (cd2 _).out.mono ?_; rintro e x1 ⟨rfl, rfl⟩
    obtain ⟨c0, c1, c2, c3, z0, z1, z2, z3⟩ := cells4 g0
    obtain ⟨b0, b1, b2, b3, y0, y1, y2, y3⟩ := cells4 g1
    have gz := set4 (show ((w1.setCell ⟨B + 1, 0, none⟩ (.int .i64 4)).setCell ⟨B + 1, 3, none⟩ (.int .i64 (readN X))).heap[B]? = some (.cells #[.int .i64 0, .int .i64 0, .string ⟨#[]⟩, .int .i64 0] 31 (0, 0)) by simp [World.setCell, Array.getElem?_modify, g0]) (.int .i64 4) (.int .i64 k) (.string ⟨#[]⟩) (.int .i64 (readN X))
    have fz := (((f0).store (p := ⟨B + 1, 0, none⟩) (by show w.heap.size ≤ B + 1; omega) (.int .i64 4)).store (p := ⟨B + 1, 3, none⟩) (by show w.heap.size ≤ B + 1; omega) (.int .i64 (readN X))).store4 hB (.int .i64 4) (.int .i64 k) (.string ⟨#[]⟩) (.int .i64 (readN X))
    clear g0 g1
    go_wp2_with fail
    generalize ((((((w1.setCell ⟨B + 1, 0, none⟩ (.int .i64 4)).setCell ⟨B + 1, 3, none⟩ (.int .i64 (readN X)))).setCell ⟨B, 0, none⟩ (.int .i64 4)).setCell ⟨B, 1, none⟩ (.int .i64 k)).setCell ⟨B, 2, none⟩ (.string ⟨#[]⟩)).setCell ⟨B, 3, none⟩ (.int .i64 (readN X)) = Z at gz fz ⊢
    obtain ⟨d0, d1, d2, d3, _⟩ := cells4 gz
    refine bodyPost_ret (v := .tuple #[.agg #[.int .i64 4, .int .i64 k, .string ⟨#[]⟩, .int .i64 (readN X)], .int .i64 E, .int .i64 0]) ?_ rfl ?_
    · simp [results, Tryd.f16, go_sem, d0, d1, d2, d3]
    · exact ⟨oneOk_ok (by rw [HL.out]; rfl), fz⟩
  ·
    rw [if_neg (by omega), if_neg (by omega), hc]
    rw [hc] at cd2
    go_enter Tryd.func16, Tryd.ntmps16
    go_wp2_with fail
    have f0 : Fr [] w ((w.alloc (.cells #[.int .i64 0, .int .i64 0, .string ⟨#[]⟩, .int .i64 0] 31)).alloc (.cells #[.int .i64 0, .int .i64 k, .string ⟨#[]⟩, .int .i64 0] 31)) := ((Fr.refl [] w).alloc _).alloc _
    have g0 : ((w.alloc (.cells #[.int .i64 0, .int .i64 0, .string ⟨#[]⟩, .int .i64 0] 31)).alloc (.cells #[.int .i64 0, .int .i64 k, .string ⟨#[]⟩, .int .i64 0] 31)).heap[w.heap.size]? = some (.cells #[.int .i64 0, .int .i64 0, .string ⟨#[]⟩, .int .i64 0] 31 (0, 0)) := heap_old (heap_new w _) _
    have g1 : ((w.alloc (.cells #[.int .i64 0, .int .i64 0, .string ⟨#[]⟩, .int .i64 0] 31)).alloc (.cells #[.int .i64 0, .int .i64 k, .string ⟨#[]⟩, .int .i64 0] 31)).heap[w.heap.size + 1]? = some (.cells #[.int .i64 0, .int .i64 k, .string ⟨#[]⟩, .int .i64 0] 31 (0, 0)) := by
      have := heap_new (w.alloc (.cells #[.int .i64 0, .int .i64 0, .string ⟨#[]⟩, .int .i64 0] 31)) (.cells #[.int .i64 0, .int .i64 k, .string ⟨#[]⟩, .int .i64 0] 31)
      rw [World.size_alloc] at this
      exact this
    generalize ((w.alloc (.cells #[.int .i64 0, .int .i64 0, .string ⟨#[]⟩, .int .i64 0] 31)).alloc (.cells #[.int .i64 0, .int .i64 k, .string ⟨#[]⟩, .int .i64 0] 31)) = w1 at *
    have hBw : w.heap.size ≤ w.heap.size := Nat.le_refl _
    generalize hB : w.heap.size = B at g0 g1 hBw ⊢
    refine (cl _).out.mono ?_; rintro e x1 ⟨rfl, rfl⟩; go_wp2_with fail
    refine (cg _).out.mono ?_; rintro e x1 ⟨rfl, rfl⟩; go_wp2_with fail
    refine (cd _).out.mono ?_; rintro e x1 ⟨rfl, rfl⟩; go_wp2_with fail
    refine (cr _).out.mono ?_; rintro e x1 ⟨rfl, rfl⟩; go_wp2_with fail
    refine (cd2 _).out.mono ?_; rintro e x1 ⟨rfl, rfl⟩
    obtain ⟨c0, c1, c2, c3, z0, z1, z2, z3⟩ := cells4 g0
    obtain ⟨b0, b1, b2, b3, y0, y1, y2, y3⟩ := cells4 g1
    have gz := set4 (show ((w1.setCell ⟨B + 1, 0, none⟩ (.int .i64 4)).setCell ⟨B + 1, 3, none⟩ (.int .i64 (readN X))).heap[B]? = some (.cells #[.int .i64 0, .int .i64 0, .string ⟨#[]⟩, .int .i64 0] 31 (0, 0)) by simp [World.setCell, Array.getElem?_modify, g0]) (.int .i64 4) (.int .i64 k) (.string ⟨#[]⟩) (.int .i64 (readN X))
    have fz := (((f0).store (p := ⟨B + 1, 0, none⟩) (by show w.heap.size ≤ B + 1; omega) (.int .i64 4)).store (p := ⟨B + 1, 3, none⟩) (by show w.heap.size ≤ B + 1; omega) (.int .i64 (readN X))).store4 hB (.int .i64 4) (.int .i64 k) (.string ⟨#[]⟩) (.int .i64 (readN X))
    clear g0 g1
    go_wp2_with fail
    generalize ((((((w1.setCell ⟨B + 1, 0, none⟩ (.int .i64 4)).setCell ⟨B + 1, 3, none⟩ (.int .i64 (readN X)))).setCell ⟨B, 0, none⟩ (.int .i64 4)).setCell ⟨B, 1, none⟩ (.int .i64 k)).setCell ⟨B, 2, none⟩ (.string ⟨#[]⟩)).setCell ⟨B, 3, none⟩ (.int .i64 (readN X)) = Z at gz fz ⊢
    obtain ⟨d0, d1, d2, d3, _⟩ := cells4 gz
    refine bodyPost_ret (v := .tuple #[.agg #[.int .i64 4, .int .i64 k, .string ⟨#[]⟩, .int .i64 (readN X)], .int .i64 E, .int .i64 2]) ?_ rfl ?_
    · simp [results, Tryd.f16, go_sem, d0, d1, d2, d3]
    · exact ⟨oneOk_err rfl, fz⟩
  ·
    rw [if_neg (by omega), if_pos hc]
    rw [hc] at cd2
    go_enter Tryd.func16, Tryd.ntmps16
    go_wp2_with fail
    have f0 : Fr [] w ((w.alloc (.cells #[.int .i64 0, .int .i64 0, .string ⟨#[]⟩, .int .i64 0] 31)).alloc (.cells #[.int .i64 0, .int .i64 k, .string ⟨#[]⟩, .int .i64 0] 31)) := ((Fr.refl [] w).alloc _).alloc _
    have g0 : ((w.alloc (.cells #[.int .i64 0, .int .i64 0, .string ⟨#[]⟩, .int .i64 0] 31)).alloc (.cells #[.int .i64 0, .int .i64 k, .string ⟨#[]⟩, .int .i64 0] 31)).heap[w.heap.size]? = some (.cells #[.int .i64 0, .int .i64 0, .string ⟨#[]⟩, .int .i64 0] 31 (0, 0)) := heap_old (heap_new w _) _
    have g1 : ((w.alloc (.cells #[.int .i64 0, .int .i64 0, .string ⟨#[]⟩, .int .i64 0] 31)).alloc (.cells #[.int .i64 0, .int .i64 k, .string ⟨#[]⟩, .int .i64 0] 31)).heap[w.heap.size + 1]? = some (.cells #[.int .i64 0, .int .i64 k, .string ⟨#[]⟩, .int .i64 0] 31 (0, 0)) := by
      have := heap_new (w.alloc (.cells #[.int .i64 0, .int .i64 0, .string ⟨#[]⟩, .int .i64 0] 31)) (.cells #[.int .i64 0, .int .i64 k, .string ⟨#[]⟩, .int .i64 0] 31)
      rw [World.size_alloc] at this
      exact this
    generalize ((w.alloc (.cells #[.int .i64 0, .int .i64 0, .string ⟨#[]⟩, .int .i64 0] 31)).alloc (.cells #[.int .i64 0, .int .i64 k, .string ⟨#[]⟩, .int .i64 0] 31)) = w1 at *
    have hBw : w.heap.size ≤ w.heap.size := Nat.le_refl _
    generalize hB : w.heap.size = B at g0 g1 hBw ⊢
    refine (cl _).out.mono ?_; rintro e x1 ⟨rfl, rfl⟩; go_wp2_with fail
    refine (cg _).out.mono ?_; rintro e x1 ⟨rfl, rfl⟩; go_wp2_with fail
    refine (cd _).out.mono ?_; rintro e x1 ⟨rfl, rfl⟩; go_wp2_with fail
    refine (cr _).out.mono ?_; rintro e x1 ⟨rfl, rfl⟩; go_wp2_with fail
    refine (cd2 _).out.mono ?_; rintro e x1 ⟨rfl, rfl⟩
    obtain ⟨c0, c1, c2, c3, z0, z1, z2, z3⟩ := cells4 g0
    obtain ⟨b0, b1, b2, b3, y0, y1, y2, y3⟩ := cells4 g1
    have gz := set4 g0 (.int .i64 0) (.int .i64 k) (.string ⟨#[]⟩) (.int .i64 0)
    have fz := (f0).store4 hB (.int .i64 0) (.int .i64 k) (.string ⟨#[]⟩) (.int .i64 0)
    clear g0 g1
    go_wp2_with fail
    generalize (((w1.setCell ⟨B, 0, none⟩ (.int .i64 0)).setCell ⟨B, 1, none⟩ (.int .i64 k)).setCell ⟨B, 2, none⟩ (.string ⟨#[]⟩)).setCell ⟨B, 3, none⟩ (.int .i64 0) = Z at gz fz ⊢
    obtain ⟨d0, d1, d2, d3, _⟩ := cells4 gz
    refine bodyPost_ret (v := .tuple #[.agg #[.int .i64 0, .int .i64 k, .string ⟨#[]⟩, .int .i64 0], .int .i64 k, .int .i64 20]) ?_ rfl ?_
    · simp [results, Tryd.f16, go_sem, d0, d1, d2, d3]
    · exact ⟨oneOk_err rfl, fz⟩

set_option maxHeartbeats 1000000 in
set_option maxRecDepth 100000 in
theorem Rone_quote (s : ByteArray) (hs : s.size ≤ 1000000) (k : Nat) (hk : k < s.size) (h3 : s[k] = 34) (w : World) (hE : EnvL w) :
    Calls Tryd.prog 16 #[.string s, .int .i64 k] w fun e w' => oneOk (tok (s.data.toList.drop k)) k k e ∧ Fr [] w w' := by
  have h1 : smallB s[k] = false := by rw [h3]; decide
  have h2 : greatB s[k] = false := by rw [h3]; decide
  have h4 : isDig s[k] = false := by rw [h3]; decide
  have ht := tok_quote (s.data.toList.drop k) (s.data.toList.drop (k + 1)) ((drop_head s k hk).trans (by rw [h3]))
  rw [ht]
  obtain ⟨hl, h95⟩ := not_small h1
  have cl := fun w => Lib.hid (letter_low s[k] w)
  have cg := fun w => Lib.hid (letter_great s[k] w)
  have cd := fun w => Lib.hid (letter_dig s[k] w)
  have b35 : (((s[k].toNat : Nat) : Int) == 35) = false := byte_ne (n := 35) (by omega) (by rw [h3]; decide)
  have b34 : (((s[k].toNat : Nat) : Int) == 34) = true := by rw [h3]; rfl
  have cq := fun w => Lib.hid (Rquote_any s hs k hk w)
  have e1 : quoL (s.data.toList.drop k) = (qlen (s.data.toList.drop (k + 1))).map fun m => (s.data.toList.drop k).take (1 + m) := by unfold quoL; rw [List.drop_drop]
  have e2 : qrest s (k + 1) = (qlen (s.data.toList.drop (k + 1))).map (· + (k + 1)) := rfl
  rw [e1]
  rw [e2] at cq
  clear ht h1 h3 e1 e2
  cases hq : qlen (s.data.toList.drop (k + 1)) with
  | none =>
    rw [hq] at cq
    simp only [Option.map_none, qint] at cq ⊢
    clear hq
    go_enter Tryd.func16, Tryd.ntmps16
    go_wp2_with fail
    have f0 : Fr [] w ((w.alloc (.cells #[.int .i64 0, .int .i64 0, .string ⟨#[]⟩, .int .i64 0] 31)).alloc (.cells #[.int .i64 0, .int .i64 k, .string ⟨#[]⟩, .int .i64 0] 31)) := ((Fr.refl [] w).alloc _).alloc _
    have g0 : ((w.alloc (.cells #[.int .i64 0, .int .i64 0, .string ⟨#[]⟩, .int .i64 0] 31)).alloc (.cells #[.int .i64 0, .int .i64 k, .string ⟨#[]⟩, .int .i64 0] 31)).heap[w.heap.size]? = some (.cells #[.int .i64 0, .int .i64 0, .string ⟨#[]⟩, .int .i64 0] 31 (0, 0)) := heap_old (heap_new w _) _
    have g1 : ((w.alloc (.cells #[.int .i64 0, .int .i64 0, .string ⟨#[]⟩, .int .i64 0] 31)).alloc (.cells #[.int .i64 0, .int .i64 k, .string ⟨#[]⟩, .int .i64 0] 31)).heap[w.heap.size + 1]? = some (.cells #[.int .i64 0, .int .i64 k, .string ⟨#[]⟩, .int .i64 0] 31 (0, 0)) := by
      have := heap_new (w.alloc (.cells #[.int .i64 0, .int .i64 0, .string ⟨#[]⟩, .int .i64 0] 31)) (.cells #[.int .i64 0, .int .i64 k, .string ⟨#[]⟩, .int .i64 0] 31)
      rw [World.size_alloc] at this
      exact this
    generalize ((w.alloc (.cells #[.int .i64 0, .int .i64 0, .string ⟨#[]⟩, .int .i64 0] 31)).alloc (.cells #[.int .i64 0, .int .i64 k, .string ⟨#[]⟩, .int .i64 0] 31)) = w1 at *
    have hBw : w.heap.size ≤ w.heap.size := Nat.le_refl _
    generalize hB : w.heap.size = B at g0 g1 hBw ⊢
    refine (cl _).out.mono ?_; rintro e x1 ⟨rfl, rfl⟩; go_wp2_with fail
    refine (cg _).out.mono ?_; rintro e x1 ⟨rfl, rfl⟩; go_wp2_with fail
    refine (cd _).out.mono ?_; rintro e x1 ⟨rfl, rfl⟩; go_wp2_with fail
    refine (cq _).out.mono ?_; rintro e x1 ⟨rfl, rfl⟩
    obtain ⟨c0, c1, c2, c3, z0, z1, z2, z3⟩ := cells4 g0
    obtain ⟨b0, b1, b2, b3, y0, y1, y2, y3⟩ := cells4 g1
    have gz := set4 g0 (.int .i64 0) (.int .i64 k) (.string ⟨#[]⟩) (.int .i64 0)
    have fz := (f0).store4 hB (.int .i64 0) (.int .i64 k) (.string ⟨#[]⟩) (.int .i64 0)
    clear g0 g1
    go_wp2_with fail
    generalize (((w1.setCell ⟨B, 0, none⟩ (.int .i64 0)).setCell ⟨B, 1, none⟩ (.int .i64 k)).setCell ⟨B, 2, none⟩ (.string ⟨#[]⟩)).setCell ⟨B, 3, none⟩ (.int .i64 0) = Z at gz fz ⊢
    obtain ⟨d0, d1, d2, d3, _⟩ := cells4 gz
    refine bodyPost_ret (v := .tuple #[.agg #[.int .i64 0, .int .i64 k, .string ⟨#[]⟩, .int .i64 0], .int .i64 k, .int .i64 20]) ?_ rfl ?_
    · simp [results, Tryd.f16, go_sem, d0, d1, d2, d3]
    · exact ⟨oneOk_err rfl, fz⟩
  | some m =>
    have hm := q2_le _ false m hq
    rw [drop_len] at hm
    rw [hq] at cq
    simp only [Option.map_some, qint] at cq ⊢
    have hx := ext_at s k (1 + m)
    have hj : m + (k + 1) = k + (1 + m) := by omega
    rw [hj] at cq
    generalize hE2 : k + (1 + m) = E at *
    have hlX : ((s.data.toList.drop k).take (1 + m)).length = 1 + m := by rw [List.length_take, drop_len]; omega
    generalize (s.data.toList.drop k).take (1 + m) = X at *
    have hxe : (s.extract k E).data.toList = X := by rw [hx]
    have cu := fun w => Lib.hid (RUnquote_any (s.extract k E) (by rw [← size_list, hxe]; omega) w)
    rw [hxe] at cu
    have q1 : 0 ≤ (k : Int) ∧ (k : Int) ≤ (E : Int) ∧ (E : Int) ≤ (s.size : Int) := by omega
    have HL := Lib.hid (show E = k + X.length by omega)
    clear hq hj hE2 hlX hx hxe
    cases hu : unq X with
    | none =>
      obtain ⟨u1, u2⟩ := unq_n hu
      rw [u1, u2] at cu
      clear hu u1 u2
      simp only
      go_enter Tryd.func16, Tryd.ntmps16
      go_wp2_with fail
      have f0 : Fr [] w ((w.alloc (.cells #[.int .i64 0, .int .i64 0, .string ⟨#[]⟩, .int .i64 0] 31)).alloc (.cells #[.int .i64 0, .int .i64 k, .string ⟨#[]⟩, .int .i64 0] 31)) := ((Fr.refl [] w).alloc _).alloc _
      have g0 : ((w.alloc (.cells #[.int .i64 0, .int .i64 0, .string ⟨#[]⟩, .int .i64 0] 31)).alloc (.cells #[.int .i64 0, .int .i64 k, .string ⟨#[]⟩, .int .i64 0] 31)).heap[w.heap.size]? = some (.cells #[.int .i64 0, .int .i64 0, .string ⟨#[]⟩, .int .i64 0] 31 (0, 0)) := heap_old (heap_new w _) _
      have g1 : ((w.alloc (.cells #[.int .i64 0, .int .i64 0, .string ⟨#[]⟩, .int .i64 0] 31)).alloc (.cells #[.int .i64 0, .int .i64 k, .string ⟨#[]⟩, .int .i64 0] 31)).heap[w.heap.size + 1]? = some (.cells #[.int .i64 0, .int .i64 k, .string ⟨#[]⟩, .int .i64 0] 31 (0, 0)) := by
        have := heap_new (w.alloc (.cells #[.int .i64 0, .int .i64 0, .string ⟨#[]⟩, .int .i64 0] 31)) (.cells #[.int .i64 0, .int .i64 k, .string ⟨#[]⟩, .int .i64 0] 31)
        rw [World.size_alloc] at this
        exact this
      generalize ((w.alloc (.cells #[.int .i64 0, .int .i64 0, .string ⟨#[]⟩, .int .i64 0] 31)).alloc (.cells #[.int .i64 0, .int .i64 k, .string ⟨#[]⟩, .int .i64 0] 31)) = w1 at *
      have hBw : w.heap.size ≤ w.heap.size := Nat.le_refl _
      generalize hB : w.heap.size = B at g0 g1 hBw ⊢
      refine (cl _).out.mono ?_; rintro e x1 ⟨rfl, rfl⟩; go_wp2_with fail
      refine (cg _).out.mono ?_; rintro e x1 ⟨rfl, rfl⟩; go_wp2_with fail
      refine (cd _).out.mono ?_; rintro e x1 ⟨rfl, rfl⟩; go_wp2_with fail
      refine (cq _).out.mono ?_; rintro e x1 ⟨rfl, rfl⟩; go_wp2_with fail
      refine (cu _).out.mono ?_; rintro e x1 ⟨rfl, f1⟩
      have g0 := f1.keep g0 (fun h => by cases h)
      have g1 := f1.keep g1 (fun h => by cases h)
      have f0 := f0.trans f1
      obtain ⟨c0, c1, c2, c3, z0, z1, z2, z3⟩ := cells4 g0
      obtain ⟨b0, b1, b2, b3, y0, y1, y2, y3⟩ := cells4 g1
      have gz := set4 g0 (.int .i64 0) (.int .i64 k) (.string ⟨#[]⟩) (.int .i64 0)
      have fz := (f0).store4 hB (.int .i64 0) (.int .i64 k) (.string ⟨#[]⟩) (.int .i64 0)
      clear g0 g1
      go_wp2_with fail
      generalize (((x1.setCell ⟨B, 0, none⟩ (.int .i64 0)).setCell ⟨B, 1, none⟩ (.int .i64 k)).setCell ⟨B, 2, none⟩ (.string ⟨#[]⟩)).setCell ⟨B, 3, none⟩ (.int .i64 0) = Z at gz fz ⊢
      obtain ⟨d0, d1, d2, d3, _⟩ := cells4 gz
      refine bodyPost_ret (v := .tuple #[.agg #[.int .i64 0, .int .i64 k, .string ⟨#[]⟩, .int .i64 0], .int .i64 k, .int .i64 20]) ?_ rfl ?_
      · simp [results, Tryd.f16, go_sem, d0, d1, d2, d3]
      · exact ⟨oneOk_err rfl, fz⟩
    | some U =>
      obtain ⟨u1, u2⟩ := unq_s hu
      rw [u1, u2] at cu
      clear hu u1 u2
      simp only
      go_enter Tryd.func16, Tryd.ntmps16
      go_wp2_with fail
      have f0 : Fr [] w ((w.alloc (.cells #[.int .i64 0, .int .i64 0, .string ⟨#[]⟩, .int .i64 0] 31)).alloc (.cells #[.int .i64 0, .int .i64 k, .string ⟨#[]⟩, .int .i64 0] 31)) := ((Fr.refl [] w).alloc _).alloc _
      have g0 : ((w.alloc (.cells #[.int .i64 0, .int .i64 0, .string ⟨#[]⟩, .int .i64 0] 31)).alloc (.cells #[.int .i64 0, .int .i64 k, .string ⟨#[]⟩, .int .i64 0] 31)).heap[w.heap.size]? = some (.cells #[.int .i64 0, .int .i64 0, .string ⟨#[]⟩, .int .i64 0] 31 (0, 0)) := heap_old (heap_new w _) _
      have g1 : ((w.alloc (.cells #[.int .i64 0, .int .i64 0, .string ⟨#[]⟩, .int .i64 0] 31)).alloc (.cells #[.int .i64 0, .int .i64 k, .string ⟨#[]⟩, .int .i64 0] 31)).heap[w.heap.size + 1]? = some (.cells #[.int .i64 0, .int .i64 k, .string ⟨#[]⟩, .int .i64 0] 31 (0, 0)) := by
        have := heap_new (w.alloc (.cells #[.int .i64 0, .int .i64 0, .string ⟨#[]⟩, .int .i64 0] 31)) (.cells #[.int .i64 0, .int .i64 k, .string ⟨#[]⟩, .int .i64 0] 31)
        rw [World.size_alloc] at this
        exact this
      generalize ((w.alloc (.cells #[.int .i64 0, .int .i64 0, .string ⟨#[]⟩, .int .i64 0] 31)).alloc (.cells #[.int .i64 0, .int .i64 k, .string ⟨#[]⟩, .int .i64 0] 31)) = w1 at *
      have hBw : w.heap.size ≤ w.heap.size := Nat.le_refl _
      generalize hB : w.heap.size = B at g0 g1 hBw ⊢
      refine (cl _).out.mono ?_; rintro e x1 ⟨rfl, rfl⟩; go_wp2_with fail
      refine (cg _).out.mono ?_; rintro e x1 ⟨rfl, rfl⟩; go_wp2_with fail
      refine (cd _).out.mono ?_; rintro e x1 ⟨rfl, rfl⟩; go_wp2_with fail
      refine (cq _).out.mono ?_; rintro e x1 ⟨rfl, rfl⟩; go_wp2_with fail
      refine (cu _).out.mono ?_; rintro e x1 ⟨rfl, f1⟩
      have g0 := f1.keep g0 (fun h => by cases h)
      have g1 := f1.keep g1 (fun h => by cases h)
      have f0 := f0.trans f1
      obtain ⟨c0, c1, c2, c3, z0, z1, z2, z3⟩ := cells4 g0
      obtain ⟨b0, b1, b2, b3, y0, y1, y2, y3⟩ := cells4 g1
      have gz := set4 (show ((x1.setCell ⟨B + 1, 0, none⟩ (.int .i64 5)).setCell ⟨B + 1, 2, none⟩ (.string ⟨U.toArray⟩)).heap[B]? = some (.cells #[.int .i64 0, .int .i64 0, .string ⟨#[]⟩, .int .i64 0] 31 (0, 0)) by simp [World.setCell, Array.getElem?_modify, g0]) (.int .i64 5) (.int .i64 k) (.string ⟨U.toArray⟩) (.int .i64 0)
      have fz := (((f0).store (p := ⟨B + 1, 0, none⟩) (by show w.heap.size ≤ B + 1; omega) (.int .i64 5)).store (p := ⟨B + 1, 2, none⟩) (by show w.heap.size ≤ B + 1; omega) (.string ⟨U.toArray⟩)).store4 hB (.int .i64 5) (.int .i64 k) (.string ⟨U.toArray⟩) (.int .i64 0)
      clear g0 g1
      go_wp2_with fail
      generalize ((((((x1.setCell ⟨B + 1, 0, none⟩ (.int .i64 5)).setCell ⟨B + 1, 2, none⟩ (.string ⟨U.toArray⟩))).setCell ⟨B, 0, none⟩ (.int .i64 5)).setCell ⟨B, 1, none⟩ (.int .i64 k)).setCell ⟨B, 2, none⟩ (.string ⟨U.toArray⟩)).setCell ⟨B, 3, none⟩ (.int .i64 0) = Z at gz fz ⊢
      obtain ⟨d0, d1, d2, d3, _⟩ := cells4 gz
      refine bodyPost_ret (v := .tuple #[.agg #[.int .i64 5, .int .i64 k, .string ⟨U.toArray⟩, .int .i64 0], .int .i64 E, .int .i64 0]) ?_ rfl ?_
      · simp [results, Tryd.f16, go_sem, d0, d1, d2, d3]
      · exact ⟨oneOk_ok (by rw [HL.out]; rfl), fz⟩
end Go.Proofs.YteffobcelgbiiaaDoor
