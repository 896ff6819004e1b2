/- Layer 5, walks: the reference's words, signs and quoted texts. -/
import Derived.Test.YteffobcelgbiiaaDoorL3
namespace Go.Proofs.YteffobcelgbiiaaDoor
open Go.RowKit

def strO (l : List (List UInt8)) : Obj := .cells (l.map fun x => Value.string ⟨x.toArray⟩).toArray 9

set_option maxRecDepth 100000 in
theorem Words_any (w : World) : Calls Tryd.prog 46 #[] w fun e w' => e = .returned (.slice (some ⟨w.heap.size, 0, none⟩) 25 25) ∧ w' = w.alloc (strO wordsL) := by
  go_enter Tryd.func46, Tryd.ntmps46
  go_wp2_with fail
  go_ret
  exact ⟨rfl, rfl⟩
set_option maxRecDepth 100000 in
theorem Signs_any (w : World) : Calls Tryd.prog 34 #[] w fun e w' => e = .returned (.slice (some ⟨w.heap.size, 0, none⟩) 20 20) ∧ w' = w.alloc (strO signsL) := by
  go_enter Tryd.func34, Tryd.ntmps34
  go_wp2_with fail
  go_ret
  exact ⟨rfl, rfl⟩
theorem strO_at {l : List (List UInt8)} {w : World} {b : Nat} (h : w.heap[b]? = some (strO l)) (k : Nat) (hk : k < l.length) : w.cell? ⟨b, k, none⟩ = some (.string ⟨l[k].toArray⟩) := by
  unfold strO at h
  rw [cell_of h k]
  simp [hk]

set_option maxRecDepth 100000 in
theorem RIsWord_any (s : ByteArray) (w : World) :
    Calls Tryd.prog 30 #[.string s] w fun e w' => e = .returned (.bool (isWordB s.data.toList)) ∧ Fr [] w w' := by
  have hex : isWordB s.data.toList = true ↔ ∃ (k : Nat) (hk : k < wordsL.length), wordsL[k] = s.data.toList := by
    unfold isWordB
    rw [List.contains_iff_mem, List.mem_iff_getElem]
  have HX := Lib.hid hex
  generalize isWordB s.data.toList = R at *
  clear hex
  go_enter Tryd.func30, Tryd.ntmps30
  go_wp2_with fail
  refine (Words_any _).mono ?_; rintro e w1 ⟨rfl, rfl⟩
  have hb0 : (w.alloc (strO wordsL)).heap[w.heap.size]? = some (strO wordsL) := Array.getElem?_push_size
  have hf0 : Fr [] w (w.alloc (strO wordsL)) := (Fr.refl [] w).alloc _
  generalize w.alloc (strO wordsL) = w1 at *
  have hBl : w.heap.size < w1.heap.size := (Array.getElem?_eq_some_iff.1 hb0).1
  generalize w.heap.size = B at *
  go_wp2_with fail
  go_outline
  go_loop [4] (fun i => ∃ k : Nat, i = .int .i64 k ∧ k ≤ 25 ∧ Hid (∀ j (hj : j < wordsL.length), j < k → wordsL[j] ≠ s.data.toList)) (fun i => 25 - (intOf i).toNat)
  case atStart => exact ⟨0, rfl, by omega, Lib.hid (fun j _ h => absurd h (by omega))⟩
  case round =>
    obtain ⟨k, rfl, hk, HN⟩ := hrel
    have hlen : wordsL.length = 25 := rfl
    by_cases hlt : k < 25
    · have hcell := strO_at hb0 k (by omega)
      have hk2 : k < wordsL.length := by omega
      by_cases hq : wordsL[k] = s.data.toList
      · have hR : R = true := HX.out.2 ⟨k, by omega, hq⟩
        subst hR
        have hq2 : (wordsL[k] == s.toList) = true := by rw [ByteArray.toList_eq]; simpa using hq
        clear hq HX HN
        go_wp2_with fail
        go_ret
        exact ⟨rfl, hf0⟩
      · have hq2 : (wordsL[k] == s.toList) = false := by rw [ByteArray.toList_eq]; simpa using hq
        have HN2 : Hid (∀ j (hj : j < wordsL.length), j < k + 1 → wordsL[j] ≠ s.data.toList) := Lib.hid (fun j hj h => by
          rcases Nat.lt_or_ge j k with h1 | h1
          · exact HN.out j hj h1
          · have : j = k := by omega
            subst this; exact hq)
        clear hq
        go_wp2_with fail
        go_round
        case rel => exact ⟨k + 1, by go_num, by omega, HN2⟩
        case measure => simp [intOf]; omega
    · have hR : R = false := by
        rw [Bool.eq_false_iff]
        intro h
        obtain ⟨j, hj, e⟩ := HX.out.1 h
        exact HN.out j hj (by omega) e
      subst hR
      go_wp2_with fail
      go_ret
      exact ⟨rfl, hf0⟩
end Go.Proofs.YteffobcelgbiiaaDoor
