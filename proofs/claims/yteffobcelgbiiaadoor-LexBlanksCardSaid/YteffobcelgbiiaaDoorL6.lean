/- Layer 5, walks: the reference's token at a place. -/
import Derived.Test.YteffobcelgbiiaaDoorLu
import Derived.Test.YteffobcelgbiiaaDoorLq
import Derived.BigQuiet
import Derived.Deep.QuietTactic
namespace Go.Proofs.YteffobcelgbiiaaDoor
open Go.RowKit

theorem drop_head (s : ByteArray) (k : Nat) (h : k < s.size) : s.data.toList.drop k = s[k] :: s.data.toList.drop (k + 1) := drop_cons s k h
theorem ext_at (s : ByteArray) (k n : Nat) : s.extract k (k + n) = ⟨((s.data.toList.drop k).take n).toArray⟩ := by
  apply ByteArray.ext
  apply Array.ext'
  simp [List.drop_take]
theorem ext_run (s : ByteArray) (k : Nat) : s.extract k (runEnd s k) = ⟨(runL (s.data.toList.drop k)).toArray⟩ := by
  rw [runEnd, ext_at, runL_take]
theorem runEnd_bd (s : ByteArray) (k : Nat) (h : k ≤ s.size) : k ≤ runEnd s k ∧ runEnd s k ≤ s.size := by
  have := runL_le (s.data.toList.drop k)
  rw [drop_len] at this
  unfold runEnd
  omega
def lowB (c : UInt8) : Bool := decide ((97 : Int) ≤ ((c.toNat : Nat) : Int)) && decide (((c.toNat : Nat) : Int) ≤ 122)
theorem small_low (c : UInt8) : smallB c = (lowB c || ((c.toNat : Nat) : Int) == 95) := (smallI_byte c).symm
theorem letter_low (c : UInt8) (w : World) : Calls Tryd.prog 28 #[.int .u8 ((c.toNat : Nat) : Int), .int .u8 97, .int .u8 122] w fun e w' => e = .returned (.bool (lowB c)) ∧ w = w' := letter_any _ _ _ w
theorem letter_great (c : UInt8) (w : World) : Calls Tryd.prog 28 #[.int .u8 ((c.toNat : Nat) : Int), .int .u8 65, .int .u8 90] w fun e w' => e = .returned (.bool (greatB c)) ∧ w = w' := by
  rw [← greatI_byte]; exact letter_any _ _ _ w
theorem letter_dig (c : UInt8) (w : World) : Calls Tryd.prog 28 #[.int .u8 ((c.toNat : Nat) : Int), .int .u8 48, .int .u8 57] w fun e w' => e = .returned (.bool (isDig c)) ∧ w = w' := by
  rw [← digitI_byte]; exact letter_any _ _ _ w
theorem small_split {c : UInt8} (h : smallB c = true) : lowB c = true ∨ (lowB c = false ∧ (((c.toNat : Nat) : Int) == 95) = true) := by
  rw [small_low] at h
  cases h1 : lowB c with
  | true => exact .inl rfl
  | false => rw [h1] at h; exact .inr ⟨rfl, h⟩
theorem not_small {c : UInt8} (h : smallB c = false) : lowB c = false ∧ (((c.toNat : Nat) : Int) == 95) = false := by
  rw [small_low] at h
  simpa using h
theorem byte_ne {c : UInt8} {n : Nat} (hn : n < 256) (h : c ≠ UInt8.ofNat n) : (((c.toNat : Nat) : Int) == (n : Int)) = false := by
  rw [beq_eq_false_iff_ne]
  intro h2
  apply h
  apply UInt8.toNat_inj.1
  rw [UInt8.toNat_ofNat']
  omega
attribute [irreducible] lowB
set_option maxHeartbeats 1000000 in
set_option maxRecDepth 100000 in
theorem Rone_small (s : ByteArray) (hs : s.size ≤ 1000000) (k : Nat) (hk : k < s.size) (h1 : smallB s[k] = true) (w : World) (hE : EnvL w) :
    Calls Tryd.prog 16 #[.string s, .int .i64 k] w fun e w' => oneOk (tok (s.data.toList.drop k)) k k e ∧ Fr [] w w' := by
  have ht : tok (s.data.toList.drop k) = .ok (if isWordB (runL (s.data.toList.drop k)) = true then 6 else 1, runL (s.data.toList.drop k), 0, (runL (s.data.toList.drop k)).length) := by
    rw [drop_head s k hk, tok, if_pos h1]
  rw [ht]
  have key := small_split h1
  have hrb := runEnd_bd s k (by omega)
  have hre := ext_run s k
  have hlen : runEnd s k = k + (runL (s.data.toList.drop k)).length := rfl
  have cr := fun w => Lib.hid (Rrun_any s hs k (by omega) w)
  generalize runL (s.data.toList.drop k) = X at *
  generalize runEnd s k = E at *
  have HRE := Lib.hid hre
  have HL := Lib.hid hlen
  have q1 : 0 ≤ (k : Int) ∧ (k : Int) ≤ (E : Int) ∧ (E : Int) ≤ (s.size : Int) := by omega
  have cw := fun w => Lib.hid (RIsWord_any (s.extract k E) w)
  have hxe : (s.extract k E).data.toList = X := by rw [hre]
  rw [hxe] at cw
  clear ht h1 hre hlen hxe
  have cl := fun w => Lib.hid (letter_low s[k] w)
  cases hw : isWordB X with
  | true =>
    rw [if_pos rfl]
    rcases key with hl | ⟨hl, h95⟩
    ·
      go_enter Tryd.func16, Tryd.ntmps16
      go_wp2_with fail
      have f0 : Fr [] w ((w.alloc (.cells #[.int .i64 0, .int .i64 0, .string ⟨#[]⟩, .int .i64 0] 31)).alloc (.cells #[.int .i64 0, .int .i64 k, .string ⟨#[]⟩, .int .i64 0] 31)) := ((Fr.refl [] w).alloc _).alloc _
      have g0 : ((w.alloc (.cells #[.int .i64 0, .int .i64 0, .string ⟨#[]⟩, .int .i64 0] 31)).alloc (.cells #[.int .i64 0, .int .i64 k, .string ⟨#[]⟩, .int .i64 0] 31)).heap[w.heap.size]? = some (.cells #[.int .i64 0, .int .i64 0, .string ⟨#[]⟩, .int .i64 0] 31 (0, 0)) := heap_old (heap_new w _) _
      have g1 : ((w.alloc (.cells #[.int .i64 0, .int .i64 0, .string ⟨#[]⟩, .int .i64 0] 31)).alloc (.cells #[.int .i64 0, .int .i64 k, .string ⟨#[]⟩, .int .i64 0] 31)).heap[w.heap.size + 1]? = some (.cells #[.int .i64 0, .int .i64 k, .string ⟨#[]⟩, .int .i64 0] 31 (0, 0)) := by
        have := heap_new (w.alloc (.cells #[.int .i64 0, .int .i64 0, .string ⟨#[]⟩, .int .i64 0] 31)) (.cells #[.int .i64 0, .int .i64 k, .string ⟨#[]⟩, .int .i64 0] 31)
        rw [World.size_alloc] at this
        exact this
      generalize ((w.alloc (.cells #[.int .i64 0, .int .i64 0, .string ⟨#[]⟩, .int .i64 0] 31)).alloc (.cells #[.int .i64 0, .int .i64 k, .string ⟨#[]⟩, .int .i64 0] 31)) = w1 at *
      have hBw : w.heap.size ≤ w.heap.size := Nat.le_refl _
      generalize hB : w.heap.size = B at g0 g1 hBw ⊢
      refine (cl _).out.mono ?_; rintro e x1 ⟨rfl, rfl⟩; go_wp2_with fail
      refine (cr _).out.mono ?_; rintro e x1 ⟨rfl, rfl⟩
      obtain ⟨c0, c1, c2, c3, z0, z1, z2, z3⟩ := cells4 g0
      obtain ⟨b0, b1, b2, b3, y0, y1, y2, y3⟩ := cells4 g1
      have f0 := (f0.store (p := ⟨B + 1, 2, none⟩) (by show w.heap.size ≤ B + 1; omega) (.string (s.extract k E))).store (p := ⟨B + 1, 0, none⟩) (by show w.heap.size ≤ B + 1; omega) (.int .i64 1)
      have G0 : ((w1.setCell ⟨B + 1, 2, none⟩ (.string (s.extract k E))).setCell ⟨B + 1, 0, none⟩ (.int .i64 1)).heap[B]? = some (.cells #[.int .i64 0, .int .i64 0, .string ⟨#[]⟩, .int .i64 0] 31 (0, 0)) := by simp [World.setCell, Array.getElem?_modify, g0]
      have G1 : ((w1.setCell ⟨B + 1, 2, none⟩ (.string (s.extract k E))).setCell ⟨B + 1, 0, none⟩ (.int .i64 1)).heap[B + 1]? = some (.cells #[.int .i64 1, .int .i64 k, .string (s.extract k E), .int .i64 0] 31 (0, 0)) := by simp [World.setCell, Array.getElem?_modify, g1]
      clear g0 g1
      have HG0 := Lib.hid G0
      have HG1 := Lib.hid G1
      clear G0 G1
      go_wp2_with fail
      generalize ((w1.setCell ⟨B + 1, 2, none⟩ (.string (s.extract k E))).setCell ⟨B + 1, 0, none⟩ (.int .i64 1)) = w2 at *
      have g0 := HG0.out
      have g1 := HG1.out
      clear c0 c1 c2 c3 z0 z1 z2 z3 b0 b1 b2 b3 y0 y1 y2 y3 HG0 HG1
      refine (cw _).out.mono ?_; rintro e x2 ⟨rfl, f2⟩; rw [hw]
      have g0 := f2.keep g0 (fun h => by cases h)
      have g1 := f2.keep g1 (fun h => by cases h)
      have f0 := f0.trans f2
      obtain ⟨c0, c1, c2, c3, z0, z1, z2, z3⟩ := cells4 g0
      obtain ⟨b0, b1, b2, b3, y0, y1, y2, y3⟩ := cells4 g1
      have gz := set4 (show (x2.setCell ⟨B + 1, 0, none⟩ (.int .i64 6)).heap[B]? = some (.cells #[.int .i64 0, .int .i64 0, .string ⟨#[]⟩, .int .i64 0] 31 (0, 0)) by simp [World.setCell, Array.getElem?_modify, g0]) (.int .i64 6) (.int .i64 k) (.string (s.extract k E)) (.int .i64 0)
      have fz := ((f0).store (p := ⟨B + 1, 0, none⟩) (by show w.heap.size ≤ B + 1; omega) (.int .i64 6)).store4 hB (.int .i64 6) (.int .i64 k) (.string (s.extract k E)) (.int .i64 0)
      clear g0 g1
      go_wp2_with fail
      generalize (((((x2.setCell ⟨B + 1, 0, none⟩ (.int .i64 6))).setCell ⟨B, 0, none⟩ (.int .i64 6)).setCell ⟨B, 1, none⟩ (.int .i64 k)).setCell ⟨B, 2, none⟩ (.string (s.extract k E))).setCell ⟨B, 3, none⟩ (.int .i64 0) = Z at gz fz ⊢
      obtain ⟨d0, d1, d2, d3, _⟩ := cells4 gz
      refine bodyPost_ret (v := .tuple #[.agg #[.int .i64 6, .int .i64 k, .string (s.extract k E), .int .i64 0], .int .i64 E, .int .i64 0]) ?_ rfl ?_
      · simp [results, Tryd.f16, go_sem, d0, d1, d2, d3]
      · exact ⟨oneOk_ok (by rw [HRE.out, HL.out]; rfl), fz⟩
    ·
      go_enter Tryd.func16, Tryd.ntmps16
      go_wp2_with fail
      have f0 : Fr [] w ((w.alloc (.cells #[.int .i64 0, .int .i64 0, .string ⟨#[]⟩, .int .i64 0] 31)).alloc (.cells #[.int .i64 0, .int .i64 k, .string ⟨#[]⟩, .int .i64 0] 31)) := ((Fr.refl [] w).alloc _).alloc _
      have g0 : ((w.alloc (.cells #[.int .i64 0, .int .i64 0, .string ⟨#[]⟩, .int .i64 0] 31)).alloc (.cells #[.int .i64 0, .int .i64 k, .string ⟨#[]⟩, .int .i64 0] 31)).heap[w.heap.size]? = some (.cells #[.int .i64 0, .int .i64 0, .string ⟨#[]⟩, .int .i64 0] 31 (0, 0)) := heap_old (heap_new w _) _
      have g1 : ((w.alloc (.cells #[.int .i64 0, .int .i64 0, .string ⟨#[]⟩, .int .i64 0] 31)).alloc (.cells #[.int .i64 0, .int .i64 k, .string ⟨#[]⟩, .int .i64 0] 31)).heap[w.heap.size + 1]? = some (.cells #[.int .i64 0, .int .i64 k, .string ⟨#[]⟩, .int .i64 0] 31 (0, 0)) := by
        have := heap_new (w.alloc (.cells #[.int .i64 0, .int .i64 0, .string ⟨#[]⟩, .int .i64 0] 31)) (.cells #[.int .i64 0, .int .i64 k, .string ⟨#[]⟩, .int .i64 0] 31)
        rw [World.size_alloc] at this
        exact this
      generalize ((w.alloc (.cells #[.int .i64 0, .int .i64 0, .string ⟨#[]⟩, .int .i64 0] 31)).alloc (.cells #[.int .i64 0, .int .i64 k, .string ⟨#[]⟩, .int .i64 0] 31)) = w1 at *
      have hBw : w.heap.size ≤ w.heap.size := Nat.le_refl _
      generalize hB : w.heap.size = B at g0 g1 hBw ⊢
      refine (cl _).out.mono ?_; rintro e x1 ⟨rfl, rfl⟩; go_wp2_with fail
      refine (cr _).out.mono ?_; rintro e x1 ⟨rfl, rfl⟩
      obtain ⟨c0, c1, c2, c3, z0, z1, z2, z3⟩ := cells4 g0
      obtain ⟨b0, b1, b2, b3, y0, y1, y2, y3⟩ := cells4 g1
      have f0 := (f0.store (p := ⟨B + 1, 2, none⟩) (by show w.heap.size ≤ B + 1; omega) (.string (s.extract k E))).store (p := ⟨B + 1, 0, none⟩) (by show w.heap.size ≤ B + 1; omega) (.int .i64 1)
      have G0 : ((w1.setCell ⟨B + 1, 2, none⟩ (.string (s.extract k E))).setCell ⟨B + 1, 0, none⟩ (.int .i64 1)).heap[B]? = some (.cells #[.int .i64 0, .int .i64 0, .string ⟨#[]⟩, .int .i64 0] 31 (0, 0)) := by simp [World.setCell, Array.getElem?_modify, g0]
      have G1 : ((w1.setCell ⟨B + 1, 2, none⟩ (.string (s.extract k E))).setCell ⟨B + 1, 0, none⟩ (.int .i64 1)).heap[B + 1]? = some (.cells #[.int .i64 1, .int .i64 k, .string (s.extract k E), .int .i64 0] 31 (0, 0)) := by simp [World.setCell, Array.getElem?_modify, g1]
      clear g0 g1
      have HG0 := Lib.hid G0
      have HG1 := Lib.hid G1
      clear G0 G1
      go_wp2_with fail
      generalize ((w1.setCell ⟨B + 1, 2, none⟩ (.string (s.extract k E))).setCell ⟨B + 1, 0, none⟩ (.int .i64 1)) = w2 at *
      have g0 := HG0.out
      have g1 := HG1.out
      clear c0 c1 c2 c3 z0 z1 z2 z3 b0 b1 b2 b3 y0 y1 y2 y3 HG0 HG1
      refine (cw _).out.mono ?_; rintro e x2 ⟨rfl, f2⟩; rw [hw]
      have g0 := f2.keep g0 (fun h => by cases h)
      have g1 := f2.keep g1 (fun h => by cases h)
      have f0 := f0.trans f2
      obtain ⟨c0, c1, c2, c3, z0, z1, z2, z3⟩ := cells4 g0
      obtain ⟨b0, b1, b2, b3, y0, y1, y2, y3⟩ := cells4 g1
      have gz := set4 (show (x2.setCell ⟨B + 1, 0, none⟩ (.int .i64 6)).heap[B]? = some (.cells #[.int .i64 0, .int .i64 0, .string ⟨#[]⟩, .int .i64 0] 31 (0, 0)) by simp [World.setCell, Array.getElem?_modify, g0]) (.int .i64 6) (.int .i64 k) (.string (s.extract k E)) (.int .i64 0)
      have fz := ((f0).store (p := ⟨B + 1, 0, none⟩) (by show w.heap.size ≤ B + 1; omega) (.int .i64 6)).store4 hB (.int .i64 6) (.int .i64 k) (.string (s.extract k E)) (.int .i64 0)
      clear g0 g1
      go_wp2_with fail
      generalize (((((x2.setCell ⟨B + 1, 0, none⟩ (.int .i64 6))).setCell ⟨B, 0, none⟩ (.int .i64 6)).setCell ⟨B, 1, none⟩ (.int .i64 k)).setCell ⟨B, 2, none⟩ (.string (s.extract k E))).setCell ⟨B, 3, none⟩ (.int .i64 0) = Z at gz fz ⊢
      obtain ⟨d0, d1, d2, d3, _⟩ := cells4 gz
      refine bodyPost_ret (v := .tuple #[.agg #[.int .i64 6, .int .i64 k, .string (s.extract k E), .int .i64 0], .int .i64 E, .int .i64 0]) ?_ rfl ?_
      · simp [results, Tryd.f16, go_sem, d0, d1, d2, d3]
      · exact ⟨oneOk_ok (by rw [HRE.out, HL.out]; rfl), fz⟩
  | false =>
    rw [if_neg Bool.false_ne_true]
    rcases key with hl | ⟨hl, h95⟩
    ·
      go_enter Tryd.func16, Tryd.ntmps16
      go_wp2_with fail
      have f0 : Fr [] w ((w.alloc (.cells #[.int .i64 0, .int .i64 0, .string ⟨#[]⟩, .int .i64 0] 31)).alloc (.cells #[.int .i64 0, .int .i64 k, .string ⟨#[]⟩, .int .i64 0] 31)) := ((Fr.refl [] w).alloc _).alloc _
      have g0 : ((w.alloc (.cells #[.int .i64 0, .int .i64 0, .string ⟨#[]⟩, .int .i64 0] 31)).alloc (.cells #[.int .i64 0, .int .i64 k, .string ⟨#[]⟩, .int .i64 0] 31)).heap[w.heap.size]? = some (.cells #[.int .i64 0, .int .i64 0, .string ⟨#[]⟩, .int .i64 0] 31 (0, 0)) := heap_old (heap_new w _) _
      have g1 : ((w.alloc (.cells #[.int .i64 0, .int .i64 0, .string ⟨#[]⟩, .int .i64 0] 31)).alloc (.cells #[.int .i64 0, .int .i64 k, .string ⟨#[]⟩, .int .i64 0] 31)).heap[w.heap.size + 1]? = some (.cells #[.int .i64 0, .int .i64 k, .string ⟨#[]⟩, .int .i64 0] 31 (0, 0)) := by
        have := heap_new (w.alloc (.cells #[.int .i64 0, .int .i64 0, .string ⟨#[]⟩, .int .i64 0] 31)) (.cells #[.int .i64 0, .int .i64 k, .string ⟨#[]⟩, .int .i64 0] 31)
        rw [World.size_alloc] at this
        exact this
      generalize ((w.alloc (.cells #[.int .i64 0, .int .i64 0, .string ⟨#[]⟩, .int .i64 0] 31)).alloc (.cells #[.int .i64 0, .int .i64 k, .string ⟨#[]⟩, .int .i64 0] 31)) = w1 at *
      have hBw : w.heap.size ≤ w.heap.size := Nat.le_refl _
      generalize hB : w.heap.size = B at g0 g1 hBw ⊢
      refine (cl _).out.mono ?_; rintro e x1 ⟨rfl, rfl⟩; go_wp2_with fail
      refine (cr _).out.mono ?_; rintro e x1 ⟨rfl, rfl⟩
      obtain ⟨c0, c1, c2, c3, z0, z1, z2, z3⟩ := cells4 g0
      obtain ⟨b0, b1, b2, b3, y0, y1, y2, y3⟩ := cells4 g1
      have f0 := (f0.store (p := ⟨B + 1, 2, none⟩) (by show w.heap.size ≤ B + 1; omega) (.string (s.extract k E))).store (p := ⟨B + 1, 0, none⟩) (by show w.heap.size ≤ B + 1; omega) (.int .i64 1)
      have G0 : ((w1.setCell ⟨B + 1, 2, none⟩ (.string (s.extract k E))).setCell ⟨B + 1, 0, none⟩ (.int .i64 1)).heap[B]? = some (.cells #[.int .i64 0, .int .i64 0, .string ⟨#[]⟩, .int .i64 0] 31 (0, 0)) := by simp [World.setCell, Array.getElem?_modify, g0]
      have G1 : ((w1.setCell ⟨B + 1, 2, none⟩ (.string (s.extract k E))).setCell ⟨B + 1, 0, none⟩ (.int .i64 1)).heap[B + 1]? = some (.cells #[.int .i64 1, .int .i64 k, .string (s.extract k E), .int .i64 0] 31 (0, 0)) := by simp [World.setCell, Array.getElem?_modify, g1]
      clear g0 g1
      have HG0 := Lib.hid G0
      have HG1 := Lib.hid G1
      clear G0 G1
      go_wp2_with fail
      generalize ((w1.setCell ⟨B + 1, 2, none⟩ (.string (s.extract k E))).setCell ⟨B + 1, 0, none⟩ (.int .i64 1)) = w2 at *
      have g0 := HG0.out
      have g1 := HG1.out
      clear c0 c1 c2 c3 z0 z1 z2 z3 b0 b1 b2 b3 y0 y1 y2 y3 HG0 HG1
      refine (cw _).out.mono ?_; rintro e x2 ⟨rfl, f2⟩; rw [hw]
      have g0 := f2.keep g0 (fun h => by cases h)
      have g1 := f2.keep g1 (fun h => by cases h)
      have f0 := f0.trans f2
      obtain ⟨c0, c1, c2, c3, z0, z1, z2, z3⟩ := cells4 g0
      obtain ⟨b0, b1, b2, b3, y0, y1, y2, y3⟩ := cells4 g1
      have gz := set4 g0 (.int .i64 1) (.int .i64 k) (.string (s.extract k E)) (.int .i64 0)
      have fz := (f0).store4 hB (.int .i64 1) (.int .i64 k) (.string (s.extract k E)) (.int .i64 0)
      clear g0 g1
      go_wp2_with fail
      generalize (((x2.setCell ⟨B, 0, none⟩ (.int .i64 1)).setCell ⟨B, 1, none⟩ (.int .i64 k)).setCell ⟨B, 2, none⟩ (.string (s.extract k E))).setCell ⟨B, 3, none⟩ (.int .i64 0) = Z at gz fz ⊢
      obtain ⟨d0, d1, d2, d3, _⟩ := cells4 gz
      refine bodyPost_ret (v := .tuple #[.agg #[.int .i64 1, .int .i64 k, .string (s.extract k E), .int .i64 0], .int .i64 E, .int .i64 0]) ?_ rfl ?_
      · simp [results, Tryd.f16, go_sem, d0, d1, d2, d3]
      · exact ⟨oneOk_ok (by rw [HRE.out, HL.out]; rfl), fz⟩
    ·
      go_enter Tryd.func16, Tryd.ntmps16
      go_wp2_with fail
      have f0 : Fr [] w ((w.alloc (.cells #[.int .i64 0, .int .i64 0, .string ⟨#[]⟩, .int .i64 0] 31)).alloc (.cells #[.int .i64 0, .int .i64 k, .string ⟨#[]⟩, .int .i64 0] 31)) := ((Fr.refl [] w).alloc _).alloc _
      have g0 : ((w.alloc (.cells #[.int .i64 0, .int .i64 0, .string ⟨#[]⟩, .int .i64 0] 31)).alloc (.cells #[.int .i64 0, .int .i64 k, .string ⟨#[]⟩, .int .i64 0] 31)).heap[w.heap.size]? = some (.cells #[.int .i64 0, .int .i64 0, .string ⟨#[]⟩, .int .i64 0] 31 (0, 0)) := heap_old (heap_new w _) _
      have g1 : ((w.alloc (.cells #[.int .i64 0, .int .i64 0, .string ⟨#[]⟩, .int .i64 0] 31)).alloc (.cells #[.int .i64 0, .int .i64 k, .string ⟨#[]⟩, .int .i64 0] 31)).heap[w.heap.size + 1]? = some (.cells #[.int .i64 0, .int .i64 k, .string ⟨#[]⟩, .int .i64 0] 31 (0, 0)) := by
        have := heap_new (w.alloc (.cells #[.int .i64 0, .int .i64 0, .string ⟨#[]⟩, .int .i64 0] 31)) (.cells #[.int .i64 0, .int .i64 k, .string ⟨#[]⟩, .int .i64 0] 31)
        rw [World.size_alloc] at this
        exact this
      generalize ((w.alloc (.cells #[.int .i64 0, .int .i64 0, .string ⟨#[]⟩, .int .i64 0] 31)).alloc (.cells #[.int .i64 0, .int .i64 k, .string ⟨#[]⟩, .int .i64 0] 31)) = w1 at *
      have hBw : w.heap.size ≤ w.heap.size := Nat.le_refl _
      generalize hB : w.heap.size = B at g0 g1 hBw ⊢
      refine (cl _).out.mono ?_; rintro e x1 ⟨rfl, rfl⟩; go_wp2_with fail
      refine (cr _).out.mono ?_; rintro e x1 ⟨rfl, rfl⟩
      obtain ⟨c0, c1, c2, c3, z0, z1, z2, z3⟩ := cells4 g0
      obtain ⟨b0, b1, b2, b3, y0, y1, y2, y3⟩ := cells4 g1
      have f0 := (f0.store (p := ⟨B + 1, 2, none⟩) (by show w.heap.size ≤ B + 1; omega) (.string (s.extract k E))).store (p := ⟨B + 1, 0, none⟩) (by show w.heap.size ≤ B + 1; omega) (.int .i64 1)
      have G0 : ((w1.setCell ⟨B + 1, 2, none⟩ (.string (s.extract k E))).setCell ⟨B + 1, 0, none⟩ (.int .i64 1)).heap[B]? = some (.cells #[.int .i64 0, .int .i64 0, .string ⟨#[]⟩, .int .i64 0] 31 (0, 0)) := by simp [World.setCell, Array.getElem?_modify, g0]
      have G1 : ((w1.setCell ⟨B + 1, 2, none⟩ (.string (s.extract k E))).setCell ⟨B + 1, 0, none⟩ (.int .i64 1)).heap[B + 1]? = some (.cells #[.int .i64 1, .int .i64 k, .string (s.extract k E), .int .i64 0] 31 (0, 0)) := by simp [World.setCell, Array.getElem?_modify, g1]
      clear g0 g1
      have HG0 := Lib.hid G0
      have HG1 := Lib.hid G1
      clear G0 G1
      go_wp2_with fail
      generalize ((w1.setCell ⟨B + 1, 2, none⟩ (.string (s.extract k E))).setCell ⟨B + 1, 0, none⟩ (.int .i64 1)) = w2 at *
      have g0 := HG0.out
      have g1 := HG1.out
      clear c0 c1 c2 c3 z0 z1 z2 z3 b0 b1 b2 b3 y0 y1 y2 y3 HG0 HG1
      refine (cw _).out.mono ?_; rintro e x2 ⟨rfl, f2⟩; rw [hw]
      have g0 := f2.keep g0 (fun h => by cases h)
      have g1 := f2.keep g1 (fun h => by cases h)
      have f0 := f0.trans f2
      obtain ⟨c0, c1, c2, c3, z0, z1, z2, z3⟩ := cells4 g0
      obtain ⟨b0, b1, b2, b3, y0, y1, y2, y3⟩ := cells4 g1
      have gz := set4 g0 (.int .i64 1) (.int .i64 k) (.string (s.extract k E)) (.int .i64 0)
      have fz := (f0).store4 hB (.int .i64 1) (.int .i64 k) (.string (s.extract k E)) (.int .i64 0)
      clear g0 g1
      go_wp2_with fail
      generalize (((x2.setCell ⟨B, 0, none⟩ (.int .i64 1)).setCell ⟨B, 1, none⟩ (.int .i64 k)).setCell ⟨B, 2, none⟩ (.string (s.extract k E))).setCell ⟨B, 3, none⟩ (.int .i64 0) = Z at gz fz ⊢
      obtain ⟨d0, d1, d2, d3, _⟩ := cells4 gz
      refine bodyPost_ret (v := .tuple #[.agg #[.int .i64 1, .int .i64 k, .string (s.extract k E), .int .i64 0], .int .i64 E, .int .i64 0]) ?_ rfl ?_
      · simp [results, Tryd.f16, go_sem, d0, d1, d2, d3]
      · exact ⟨oneOk_ok (by rw [HRE.out, HL.out]; rfl), fz⟩

set_option maxHeartbeats 1000000 in
set_option maxRecDepth 100000 in
theorem Rone_great (s : ByteArray) (hs : s.size ≤ 1000000) (k : Nat) (hk : k < s.size) (h1 : smallB s[k] = false) (h2 : greatB s[k] = true) (w : World) (hE : EnvL w) :
    Calls Tryd.prog 16 #[.string s, .int .i64 k] w fun e w' => oneOk (tok (s.data.toList.drop k)) k k e ∧ Fr [] w w' := by
  have ht : tok (s.data.toList.drop k) = .ok (2, runL (s.data.toList.drop k), 0, (runL (s.data.toList.drop k)).length) := by
    rw [drop_head s k hk, tok, if_neg (by simp [h1]), if_pos h2]
  rw [ht]
  obtain ⟨hl, h95⟩ := not_small h1
  have cl := fun w => Lib.hid (letter_low s[k] w)
  have cg := fun w => Lib.hid (letter_great s[k] w)
  have hrb := runEnd_bd s k (by omega)
  have hre := ext_run s k
  have hlen : runEnd s k = k + (runL (s.data.toList.drop k)).length := rfl
  have cr := fun w => Lib.hid (Rrun_any s hs k (by omega) w)
  generalize runL (s.data.toList.drop k) = X at *
  generalize runEnd s k = E at *
  have HRE := Lib.hid hre
  have HL := Lib.hid hlen
  have q1 : 0 ≤ (k : Int) ∧ (k : Int) ≤ (E : Int) ∧ (E : Int) ≤ (s.size : Int) := by omega
  clear ht h1 hre hlen
  go_enter Tryd.func16, Tryd.ntmps16
  go_wp2_with fail
  have f0 : Fr [] w ((w.alloc (.cells #[.int .i64 0, .int .i64 0, .string ⟨#[]⟩, .int .i64 0] 31)).alloc (.cells #[.int .i64 0, .int .i64 k, .string ⟨#[]⟩, .int .i64 0] 31)) := ((Fr.refl [] w).alloc _).alloc _
  have g0 : ((w.alloc (.cells #[.int .i64 0, .int .i64 0, .string ⟨#[]⟩, .int .i64 0] 31)).alloc (.cells #[.int .i64 0, .int .i64 k, .string ⟨#[]⟩, .int .i64 0] 31)).heap[w.heap.size]? = some (.cells #[.int .i64 0, .int .i64 0, .string ⟨#[]⟩, .int .i64 0] 31 (0, 0)) := heap_old (heap_new w _) _
  have g1 : ((w.alloc (.cells #[.int .i64 0, .int .i64 0, .string ⟨#[]⟩, .int .i64 0] 31)).alloc (.cells #[.int .i64 0, .int .i64 k, .string ⟨#[]⟩, .int .i64 0] 31)).heap[w.heap.size + 1]? = some (.cells #[.int .i64 0, .int .i64 k, .string ⟨#[]⟩, .int .i64 0] 31 (0, 0)) := by
    have := heap_new (w.alloc (.cells #[.int .i64 0, .int .i64 0, .string ⟨#[]⟩, .int .i64 0] 31)) (.cells #[.int .i64 0, .int .i64 k, .string ⟨#[]⟩, .int .i64 0] 31)
    rw [World.size_alloc] at this
    exact this
  generalize ((w.alloc (.cells #[.int .i64 0, .int .i64 0, .string ⟨#[]⟩, .int .i64 0] 31)).alloc (.cells #[.int .i64 0, .int .i64 k, .string ⟨#[]⟩, .int .i64 0] 31)) = w1 at *
  have hBw : w.heap.size ≤ w.heap.size := Nat.le_refl _
  generalize hB : w.heap.size = B at g0 g1 hBw ⊢
  refine (cl _).out.mono ?_; rintro e x1 ⟨rfl, rfl⟩; go_wp2_with fail
  refine (cg _).out.mono ?_; rintro e x1 ⟨rfl, rfl⟩; go_wp2_with fail
  refine (cr _).out.mono ?_; rintro e x1 ⟨rfl, rfl⟩
  obtain ⟨c0, c1, c2, c3, z0, z1, z2, z3⟩ := cells4 g0
  obtain ⟨b0, b1, b2, b3, y0, y1, y2, y3⟩ := cells4 g1
  have gz := set4 (show ((w1.setCell ⟨B + 1, 0, none⟩ (.int .i64 2)).setCell ⟨B + 1, 2, none⟩ (.string (s.extract k E))).heap[B]? = some (.cells #[.int .i64 0, .int .i64 0, .string ⟨#[]⟩, .int .i64 0] 31 (0, 0)) by simp [World.setCell, Array.getElem?_modify, g0]) (.int .i64 2) (.int .i64 k) (.string (s.extract k E)) (.int .i64 0)
  have fz := (((f0).store (p := ⟨B + 1, 0, none⟩) (by show w.heap.size ≤ B + 1; omega) (.int .i64 2)).store (p := ⟨B + 1, 2, none⟩) (by show w.heap.size ≤ B + 1; omega) (.string (s.extract k E))).store4 hB (.int .i64 2) (.int .i64 k) (.string (s.extract k E)) (.int .i64 0)
  clear g0 g1
  go_wp2_with fail
  generalize ((((((w1.setCell ⟨B + 1, 0, none⟩ (.int .i64 2)).setCell ⟨B + 1, 2, none⟩ (.string (s.extract k E)))).setCell ⟨B, 0, none⟩ (.int .i64 2)).setCell ⟨B, 1, none⟩ (.int .i64 k)).setCell ⟨B, 2, none⟩ (.string (s.extract k E))).setCell ⟨B, 3, none⟩ (.int .i64 0) = Z at gz fz ⊢
  obtain ⟨d0, d1, d2, d3, _⟩ := cells4 gz
  refine bodyPost_ret (v := .tuple #[.agg #[.int .i64 2, .int .i64 k, .string (s.extract k E), .int .i64 0], .int .i64 E, .int .i64 0]) ?_ rfl ?_
  · simp [results, Tryd.f16, go_sem, d0, d1, d2, d3]
  · exact ⟨oneOk_ok (by rw [HRE.out, HL.out]; rfl), fz⟩

set_option maxHeartbeats 1000000 in
set_option maxRecDepth 100000 in
theorem Rone_tag (s : ByteArray) (hs : s.size ≤ 1000000) (k : Nat) (hk : k < s.size) (h3 : s[k] = 35) (hk2 : k + 1 < s.size) (h7 : greatB s[k + 1] = true) (w : World) (hE : EnvL w) :
    Calls Tryd.prog 16 #[.string s, .int .i64 k] w fun e w' => oneOk (tok (s.data.toList.drop k)) k k e ∧ Fr [] w w' := by
  have ht : tok (s.data.toList.drop k) = .ok (3, runL (s.data.toList.drop (k + 1)), 0, 1 + (runL (s.data.toList.drop (k + 1))).length) := by
    rw [drop_head s k hk, tok, if_neg (by rw [h3]; decide), if_neg (by rw [h3]; decide), if_pos ⟨h3, by rw [drop_head s (k + 1) hk2]; simpa using h7⟩]
  rw [ht]
  have h1 : smallB s[k] = false := by rw [h3]; decide
  have h2 : greatB s[k] = false := by rw [h3]; decide
  obtain ⟨hl, h95⟩ := not_small h1
  have cl := fun w => Lib.hid (letter_low s[k] w)
  have cg := fun w => Lib.hid (letter_great s[k] w)
  have b35 : (((s[k].toNat : Nat) : Int) == 35) = true := by rw [h3]; rfl
  have l1 : (k : Int) + 1 < (s.size : Int) := by omega
  have l2 : decide ((k : Int) + 1 < (s.size : Int)) = true := decide_eq_true l1
  have cg1 := fun w => Lib.hid (letter_great s[k + 1] w)
  have hrb := runEnd_bd s (k + 1) (by omega)
  have hre := ext_run s (k + 1)
  have hlen : runEnd s (k + 1) = k + 1 + (runL (s.data.toList.drop (k + 1))).length := rfl
  have cr := fun w => Lib.hid (Rrun_any s hs (k + 1) (by omega) w)
  generalize runL (s.data.toList.drop (k + 1)) = X at *
  generalize runEnd s (k + 1) = E at *
  have cr : ∀ w, Hid (Calls Tryd.prog 29 #[.string s, .int .i64 ((k : Int) + 1)] w fun e w' => e = .returned (.int .i64 (E : Nat)) ∧ w = w') := fun w => by have := cr w; rw [show (((k + 1 : Nat) : Nat) : Int) = (k : Int) + 1 by omega] at this; exact this
  have HRE := Lib.hid hre
  have HL := Lib.hid hlen
  have q1 : 0 ≤ (k : Int) ∧ (k : Int) + 1 ≤ (E : Int) ∧ (E : Int) ≤ (s.size : Int) := by omega
  clear ht h1 h3 hre hlen
  go_enter Tryd.func16, Tryd.ntmps16
  go_wp2_with fail
  have f0 : Fr [] w ((w.alloc (.cells #[.int .i64 0, .int .i64 0, .string ⟨#[]⟩, .int .i64 0] 31)).alloc (.cells #[.int .i64 0, .int .i64 k, .string ⟨#[]⟩, .int .i64 0] 31)) := ((Fr.refl [] w).alloc _).alloc _
  have g0 : ((w.alloc (.cells #[.int .i64 0, .int .i64 0, .string ⟨#[]⟩, .int .i64 0] 31)).alloc (.cells #[.int .i64 0, .int .i64 k, .string ⟨#[]⟩, .int .i64 0] 31)).heap[w.heap.size]? = some (.cells #[.int .i64 0, .int .i64 0, .string ⟨#[]⟩, .int .i64 0] 31 (0, 0)) := heap_old (heap_new w _) _
  have g1 : ((w.alloc (.cells #[.int .i64 0, .int .i64 0, .string ⟨#[]⟩, .int .i64 0] 31)).alloc (.cells #[.int .i64 0, .int .i64 k, .string ⟨#[]⟩, .int .i64 0] 31)).heap[w.heap.size + 1]? = some (.cells #[.int .i64 0, .int .i64 k, .string ⟨#[]⟩, .int .i64 0] 31 (0, 0)) := by
    have := heap_new (w.alloc (.cells #[.int .i64 0, .int .i64 0, .string ⟨#[]⟩, .int .i64 0] 31)) (.cells #[.int .i64 0, .int .i64 k, .string ⟨#[]⟩, .int .i64 0] 31)
    rw [World.size_alloc] at this
    exact this
  generalize ((w.alloc (.cells #[.int .i64 0, .int .i64 0, .string ⟨#[]⟩, .int .i64 0] 31)).alloc (.cells #[.int .i64 0, .int .i64 k, .string ⟨#[]⟩, .int .i64 0] 31)) = w1 at *
  have hBw : w.heap.size ≤ w.heap.size := Nat.le_refl _
  generalize hB : w.heap.size = B at g0 g1 hBw ⊢
  refine (cl _).out.mono ?_; rintro e x1 ⟨rfl, rfl⟩; go_wp2_with fail
  refine (cg _).out.mono ?_; rintro e x1 ⟨rfl, rfl⟩; go_wp2_with fail
  refine (cg1 _).out.mono ?_; rintro e x1 ⟨rfl, rfl⟩; go_wp2_with fail
  refine (cr _).out.mono ?_; rintro e x1 ⟨rfl, rfl⟩
  obtain ⟨c0, c1, c2, c3, z0, z1, z2, z3⟩ := cells4 g0
  obtain ⟨b0, b1, b2, b3, y0, y1, y2, y3⟩ := cells4 g1
  have gz := set4 (show ((w1.setCell ⟨B + 1, 0, none⟩ (.int .i64 3)).setCell ⟨B + 1, 2, none⟩ (.string (s.extract (k + 1) E))).heap[B]? = some (.cells #[.int .i64 0, .int .i64 0, .string ⟨#[]⟩, .int .i64 0] 31 (0, 0)) by simp [World.setCell, Array.getElem?_modify, g0]) (.int .i64 3) (.int .i64 k) (.string (s.extract (k + 1) E)) (.int .i64 0)
  have fz := (((f0).store (p := ⟨B + 1, 0, none⟩) (by show w.heap.size ≤ B + 1; omega) (.int .i64 3)).store (p := ⟨B + 1, 2, none⟩) (by show w.heap.size ≤ B + 1; omega) (.string (s.extract (k + 1) E))).store4 hB (.int .i64 3) (.int .i64 k) (.string (s.extract (k + 1) E)) (.int .i64 0)
  clear g0 g1
  go_wp2_with fail
  generalize ((((((w1.setCell ⟨B + 1, 0, none⟩ (.int .i64 3)).setCell ⟨B + 1, 2, none⟩ (.string (s.extract (k + 1) E)))).setCell ⟨B, 0, none⟩ (.int .i64 3)).setCell ⟨B, 1, none⟩ (.int .i64 k)).setCell ⟨B, 2, none⟩ (.string (s.extract (k + 1) E))).setCell ⟨B, 3, none⟩ (.int .i64 0) = Z at gz fz ⊢
  obtain ⟨d0, d1, d2, d3, _⟩ := cells4 gz
  refine bodyPost_ret (v := .tuple #[.agg #[.int .i64 3, .int .i64 k, .string (s.extract (k + 1) E), .int .i64 0], .int .i64 E, .int .i64 0]) ?_ rfl ?_
  · simp [results, Tryd.f16, go_sem, d0, d1, d2, d3]
  · exact ⟨oneOk_ok (by rw [HRE.out, HL.out, Nat.add_assoc]; rfl), fz⟩
end Go.Proofs.YteffobcelgbiiaaDoor
