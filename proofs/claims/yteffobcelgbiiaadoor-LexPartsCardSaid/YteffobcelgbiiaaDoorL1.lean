/- Layer 5, walks: what a byte is, and the name's bytes that a text begins with. -/
import Derived.Test.YteffobcelgbiiaaDoorRows
import Derived.Test.YteffobcelgbiiaaDoorLp
import Derived.Test.YteffobcelgbiiaaDoorW12
import Derived.Lib.OthersKept
namespace Go.Proofs.YteffobcelgbiiaaDoor
open Go.RowKit

def smallI (x : Int) : Bool := (decide (97 ≤ x) && decide (x ≤ 122)) || x == 95
def greatI (x : Int) : Bool := decide (65 ≤ x) && decide (x ≤ 90)
def digitI (x : Int) : Bool := decide (48 ≤ x) && decide (x ≤ 57)

theorem small_any (x : Int) (w : World) : Calls Tryd.prog 20 #[.int .i32 x] w fun e w' => e = .returned (.bool (smallI x)) ∧ w = w' := by
  go_enter Tryd.func20, Tryd.ntmps20
  go_wp2_with fail
  all_goals go_ret
  all_goals exact ⟨ret_bool (by rw [Bool.eq_iff_iff]; simp [smallI]; omega), rfl⟩
theorem great_any (x : Int) (w : World) : Calls Tryd.prog 22 #[.int .i32 x] w fun e w' => e = .returned (.bool (greatI x)) ∧ w = w' := by
  go_enter Tryd.func22, Tryd.ntmps22
  go_wp2_with fail
  all_goals go_ret
  all_goals exact ⟨ret_bool (by rw [Bool.eq_iff_iff]; simp [greatI]; omega), rfl⟩
theorem letter_any (x a b : Int) (w : World) : Calls Tryd.prog 28 #[.int .u8 x, .int .u8 a, .int .u8 b] w fun e w' => e = .returned (.bool (decide (a ≤ x) && decide (x ≤ b))) ∧ w = w' := by
  go_enter Tryd.func28, Tryd.ntmps28
  go_wp2_with fail
  all_goals go_ret
  all_goals exact ⟨ret_bool (by rw [Bool.eq_iff_iff]; simp; omega), rfl⟩
theorem digit_any (x : Int) (w : World) : Calls Tryd.prog 23 #[.int .i32 x] w fun e w' => e = .returned (.bool (digitI x)) ∧ w = w' := by
  go_enter Tryd.func23, Tryd.ntmps23
  go_wp2_with fail
  all_goals go_ret
  all_goals exact ⟨ret_bool (by rw [Bool.eq_iff_iff]; simp [digitI]; omega), rfl⟩
theorem smallI_byte (c : UInt8) : smallI ((c.toNat : Nat) : Int) = smallB c := by
  have h : ∀ c : Fin 256, smallI (((UInt8.ofNat c.val).toNat : Nat) : Int) = smallB (UInt8.ofNat c.val) := by decide +kernel
  simpa using h ⟨c.toNat, c.toNat_lt⟩
theorem greatI_byte (c : UInt8) : greatI ((c.toNat : Nat) : Int) = greatB c := by
  have h : ∀ c : Fin 256, greatI (((UInt8.ofNat c.val).toNat : Nat) : Int) = greatB (UInt8.ofNat c.val) := by decide +kernel
  simpa using h ⟨c.toNat, c.toNat_lt⟩
theorem digitI_byte (c : UInt8) : digitI ((c.toNat : Nat) : Int) = isDig c := by
  have h : ∀ c : Fin 256, digitI (((UInt8.ofNat c.val).toNat : Nat) : Int) = isDig (UInt8.ofNat c.val) := by decide +kernel
  simpa using h ⟨c.toNat, c.toNat_lt⟩
theorem classes_high (x : Int) (h : 128 ≤ x) : smallI x = false ∧ greatI x = false ∧ digitI x = false := by
  refine ⟨?_, ?_, ?_⟩
  · rw [Bool.eq_false_iff]; intro e; simp [smallI] at e; omega
  · rw [Bool.eq_false_iff]; intro e; simp [greatI] at e; omega
  · rw [Bool.eq_false_iff]; intro e; simp [digitI] at e; omega
theorem body_high (c : UInt8) (h : 128 ≤ c.toNat) : bodyB c = false := by
  obtain ⟨h1, h2, h3⟩ := classes_high ((c.toNat : Nat) : Int) (by omega)
  rw [smallI_byte] at h1; rw [greatI_byte] at h2; rw [digitI_byte] at h3
  simp [bodyB, h1, h2, h3]

/-- the name's bytes, by a count of bytes -/
theorem runL_at (s : ByteArray) (k : Nat) (hk : k ≤ s.size) (h : ∀ j (hj : j < k), bodyB (s[j]'(by omega)) = true) (he : k = s.size ∨ ∃ hk2 : k < s.size, bodyB s[k] = false) :
    runL s.data.toList = s.data.toList.take k := by
  unfold runL
  have hs : s.data.toList = s.data.toList.take k ++ s.data.toList.drop k := (List.take_append_drop k _).symm
  conv => lhs; rw [hs]
  rw [List.takeWhile_append_of_pos]
  · rcases he with rfl | ⟨hk2, hb⟩
    · rw [List.drop_of_length_le (by rw [size_list]; exact Nat.le_refl _)]; simp
    · rw [drop_cons s k hk2, List.takeWhile_cons_of_neg (by simp [hb])]; simp
  · intro a ha
    obtain ⟨j, hj, rfl⟩ := List.getElem_of_mem ha
    simp only [List.length_take] at hj
    have := h j (by omega)
    rw [List.getElem_take]
    exact this
theorem ext_take (s : ByteArray) (k : Nat) : s.extract 0 k = ⟨(s.data.toList.take k).toArray⟩ := by
  apply ByteArray.ext
  apply Array.ext'
  simp

set_option maxRecDepth 100000 in
theorem run_any (s : ByteArray) (hs : s.size ≤ 140737488355328) (w : World) :
    Calls Tryd.prog 21 #[.string s] w fun e w' => e = .returned (.string ⟨(runL s.data.toList).toArray⟩) ∧ Fr [] w w' := by
  go_enter Tryd.func21, Tryd.ntmps21
  go_wp2_with fail
  have hit0 : (w.iter s 0).heap[w.heap.size]? = some (.stringIter s 0) := World.iter_heap w s 0
  have hf0 : Fr [] w (w.iter s 0) := (Fr.refl [] w).alloc (.stringIter s 0)
  generalize w.iter s 0 = w1 at *
  have hB : w.heap.size ≤ w.heap.size := Nat.le_refl _
  generalize hb0 : w.heap.size = B at hit0 hB ⊢
  go_loopw [] (fun wr => ∃ pos : Nat, wr.heap[B]? = some (.stringIter s pos) ∧ pos ≤ s.size ∧ Fr [] w wr ∧ Hid (∀ j (hj : j < pos) (hj2 : j < s.size), bodyB s[j] = true)) (fun wr => s.size - wr.iterPos B)
  case atStart => exact ⟨0, hit0, by omega, hf0, Lib.hid (fun j hj _ => absurd hj (by omega))⟩
  case round =>
    obtain ⟨pos, hit, hps, hf, HA⟩ := hrel
    clear hit0 hf0
    by_cases hp : pos < s.size
    · have hnx : ∀ ty, (Instr.next (.pointer (some ⟨B, 0, none⟩)) true ty).run Tryd.prog wr = _ := fun ty => Lib.run_next_any_at wr B s pos ty hit hp
      have hit2 := Lib.iterAt_heap wr B s pos (pos + (Utf8.decode s pos).2) hit
      have hfb : Fr [] w (wr.iterAt B s (pos + (Utf8.decode s pos).2)) := Fr.of_below (Lib.below_iterAt hf.below0 (k := B) (by omega) s _)
      by_cases hbd : bodyB s[pos] = true
      · have hlo : s[pos].toNat < 128 := by
          rcases Nat.lt_or_ge s[pos].toNat 128 with h | h
          · exact h
          · rw [body_high _ h] at hbd; cases hbd
        have hd := decode_ascii s pos hp hlo
        rw [hd] at hnx hit2 hfb
        have HA2 : Hid (∀ j (hj : j < pos + 1) (hj2 : j < s.size), bodyB s[j] = true) := Lib.hid (fun j hj hj2 => by
          rcases Nat.lt_or_ge j pos with h | h
          · exact HA.out j h hj2
          · have : j = pos := by omega
            subst this; exact hbd)
        have key : smallI ((s[pos].toNat : Nat) : Int) = true ∨ (smallI ((s[pos].toNat : Nat) : Int) = false ∧ (greatI ((s[pos].toNat : Nat) : Int) = true ∨ (greatI ((s[pos].toNat : Nat) : Int) = false ∧ digitI ((s[pos].toNat : Nat) : Int) = true))) := by
          rw [smallI_byte, greatI_byte, digitI_byte]
          unfold bodyB at hbd
          cases h1 : smallB s[pos] <;> cases h2 : greatB s[pos] <;> simp_all
        clear hbd hd hlo
        rcases key with e1 | ⟨e1, e2 | ⟨e2, e3⟩⟩
        · go_wp2_with fail
          refine (small_any _ _).mono ?_; rintro e x1 ⟨rfl, rfl⟩; go_wp2_with fail
          go_roundw
          case rel => exact ⟨pos + 1, hit2, by omega, hfb, HA2⟩
          case measure => simp only [World.iterPos, hit2, hit]; omega
        · go_wp2_with fail
          refine (small_any _ _).mono ?_; rintro e x1 ⟨rfl, rfl⟩; go_wp2_with fail
          refine (great_any _ _).mono ?_; rintro e x1 ⟨rfl, rfl⟩; go_wp2_with fail
          go_roundw
          case rel => exact ⟨pos + 1, hit2, by omega, hfb, HA2⟩
          case measure => simp only [World.iterPos, hit2, hit]; omega
        · go_wp2_with fail
          refine (small_any _ _).mono ?_; rintro e x1 ⟨rfl, rfl⟩; go_wp2_with fail
          refine (great_any _ _).mono ?_; rintro e x1 ⟨rfl, rfl⟩; go_wp2_with fail
          refine (digit_any _ _).mono ?_; rintro e x1 ⟨rfl, rfl⟩; go_wp2_with fail
          go_roundw
          case rel => exact ⟨pos + 1, hit2, by omega, hfb, HA2⟩
          case measure => simp only [World.iterPos, hit2, hit]; omega
      · have hr := runL_at s pos hps (fun j hj => HA.out j hj (by omega)) (.inr ⟨hp, by simpa using hbd⟩)
        have HR := Lib.hid (show s.extract 0 pos = ⟨(runL s.data.toList).toArray⟩ by rw [hr]; exact ext_take s pos)
        obtain ⟨e1, e2, e3⟩ : smallI ((Utf8.decode s pos).1 : Int) = false ∧ greatI ((Utf8.decode s pos).1 : Int) = false ∧ digitI ((Utf8.decode s pos).1 : Int) = false := by
          rcases Nat.lt_or_ge s[pos].toNat 128 with h | h
          · rw [decode_ascii s pos hp h, smallI_byte, greatI_byte, digitI_byte]
            unfold bodyB at hbd
            cases h1 : smallB s[pos] <;> cases h2 : greatB s[pos] <;> simp_all
          · have := (decode_high s pos hp h).1
            exact classes_high _ (by omega)
        have q1 : 0 ≤ (pos : Int) ∧ (pos : Int) ≤ (s.size : Int) := by omega
        clear hbd hr
        go_wp2_with fail
        refine (small_any _ _).mono ?_; rintro e x1 ⟨rfl, rfl⟩; go_wp2_with fail
        refine (great_any _ _).mono ?_; rintro e x1 ⟨rfl, rfl⟩; go_wp2_with fail
        refine (digit_any _ _).mono ?_; rintro e x1 ⟨rfl, rfl⟩; go_wp2_with fail
        go_ret
        exact ⟨by rw [← HR.out]; rfl, hfb⟩
    · have hnx : ∀ ty, (Instr.next (.pointer (some ⟨B, 0, none⟩)) true ty).run Tryd.prog wr = _ := fun ty => Lib.run_next_end_at wr B s pos ty hit hp
      have hpe : pos = s.size := by omega
      subst hpe
      have hr := runL_at s s.size (Nat.le_refl _) (fun j hj => HA.out j hj hj) (.inl rfl)
      rw [List.take_of_length_le (by rw [size_list]; exact Nat.le_refl _)] at hr
      have HR := Lib.hid hr
      clear hr
      go_wp2_with fail
      go_ret
      exact ⟨by rw [HR.out]; rfl, hf⟩
end Go.Proofs.YteffobcelgbiiaaDoor
