/- Layer 1, walks: the reference's Read. -/
import Derived.Test.YteffobcelgbiiaaDoorW7
namespace Go.Proofs.YteffobcelgbiiaaDoor
open Go.RowKit

theorem valD_snoc : ∀ (l : List UInt8) (acc : Nat) (c : UInt8), valD acc (l ++ [c]) = valD acc l * 10 + (c.toNat - 48)
  | [], _, _ => rfl
  | _ :: l, _, c => by
    show valD _ (l ++ [c]) = valD _ l * 10 + _
    exact valD_snoc l _ c
theorem valD_mono (l : List UInt8) : ∀ (a b : Nat), a ≤ b → valD a l ≤ valD b l := by
  induction l with
  | nil => intro a b h; exact h
  | cons c r ih => intro a b h; exact ih _ _ (by omega)
theorem valD_append : ∀ (l m : List UInt8) (acc : Nat), valD acc (l ++ m) = valD (valD acc l) m
  | [], _, _ => rfl
  | _ :: l, m, _ => valD_append l m _
theorem valD_take (l : List UInt8) (k : Nat) : valD 0 (l.take k) ≤ valD 0 l := by
  have h := valD_append (l.take k) (l.drop k) 0
  rw [List.take_append_drop] at h
  rw [h]
  exact valD_ge _ _
theorem take_snoc (s : ByteArray) (k : Nat) (h : k < s.size) : s.data.toList.take (k + 1) = s.data.toList.take k ++ [s[k]] := by
  rw [List.take_succ_eq_append_getElem (by simpa using h)]; rfl
theorem mem_at (s : ByteArray) (k : Nat) (h : k < s.size) : s[k] ∈ s.data.toList := by
  have : s.data.toList[k]'(by simpa using h) ∈ s.data.toList := List.getElem_mem _
  exact this
theorem all_dig (s : ByteArray) : s.data.toList.all isDig = true ↔ ∀ k (h : k < s.size), 48 ≤ s[k].toNat ∧ s[k].toNat ≤ 57 := by
  rw [List.all_eq_true]
  constructor
  · intro h k hk
    exact (isDig_iff _).1 (h _ (mem_at s k hk))
  · intro h x hx
    obtain ⟨k, hk, rfl⟩ := List.getElem_of_mem hx
    exact (isDig_iff _).2 (h k (by simpa using hk))

/-- a byte that is no digit stands at k, digits ahead of it -/
def DigTo (s : ByteArray) (k : Nat) : Prop := ∀ j (h : j < s.size), j < k → 48 ≤ s[j].toNat ∧ s[j].toNat ≤ 57
def ValTo (s : ByteArray) (k : Nat) (n : Int) : Prop := n = (valD 0 (s.data.toList.take k) : Int)

set_option maxHeartbeats 1000000 in
set_option maxRecDepth 100000 in
theorem RRead_not (s : ByteArray) (hs : s.size ≤ 281474976710656) (w : World)
    (hn : s.toList = [] ∨ (∃ h0 : 0 < s.size, ((s[0].toNat : Nat) : Int) = 48 ∧ 1 < (s.size : Int)) ∨ ¬ s.data.toList.all isDig = true) :
    Calls Tryd.prog 31 #[.string s] w fun e w' => e = .returned (.tuple #[.int .i64 0, .int .i64 5]) ∧ w = w' := by
  by_cases he : s.toList = []
  · have h0 : ((s.size : Int) == 0) = true := by
      rw [Lib.toList_data] at he
      have := size_list s
      rw [he] at this
      simp at this
      simp [← this]
    clear hn
    go_enter Tryd.func31, Tryd.ntmps31
    go_wp2_with fail
    go_ret2
    exact ⟨rfl, rfl⟩
  · have h0 : 0 < s.size := by
      rcases Nat.eq_zero_or_pos s.size with h' | h'
      · exact absurd (by rw [Lib.toList_data]; exact List.eq_nil_of_length_eq_zero (by rw [size_list]; exact h')) he
      · exact h'
    have b1 : ((s.size : Int) == 0) = false := beq_eq_false_iff_ne.2 (by omega)
    by_cases hz : ((s[0].toNat : Nat) : Int) = 48 ∧ 1 < (s.size : Int)
    · have c1 : (((s[0].toNat : Nat) : Int) == 48) = true := by simpa using hz.1
      have c2 : decide (1 < (s.size : Int)) = true := decide_eq_true hz.2
      clear hn hz
      go_enter Tryd.func31, Tryd.ntmps31
      go_wp2_with fail
      go_ret2
      exact ⟨rfl, rfl⟩
    · have hd : ¬ ∀ k (h : k < s.size), 48 ≤ s[k].toNat ∧ s[k].toNat ≤ 57 := by
        rcases hn with hn | ⟨_, hn⟩ | hn
        · exact absurd hn he
        · exact absurd hn hz
        · rw [all_dig] at hn; exact hn
      have HD := Lib.hid hd
      have key : (((s[0].toNat : Nat) : Int) == 48) = false ∨ ((((s[0].toNat : Nat) : Int) == 48) = true ∧ decide (1 < (s.size : Int)) = false) := by
        by_cases z1 : ((s[0].toNat : Nat) : Int) = 48
        · exact .inr ⟨by simpa using z1, decide_eq_false (fun h => hz ⟨z1, h⟩)⟩
        · exact .inl (by simpa using z1)
      clear hn hz hd he
      rcases key with c1 | ⟨c1, c2⟩
      all_goals
        go_enter Tryd.func31, Tryd.ntmps31
        go_wp2_with fail
        go_loop [4] (fun i => ∃ k : Nat, k ≤ s.size ∧ i = .int .i64 k ∧ DigTo s k) (fun i => s.size - (intOf i).toNat)
        case atStart => exact ⟨0, Nat.zero_le _, rfl, fun j _ h => absurd h (Nat.not_lt_zero _)⟩
        case round =>
          obtain ⟨k, hk, rfl, H⟩ := hrel
          by_cases hlt : k < s.size
          · by_cases hl : ((s[k].toNat : Nat) : Int) < 48
            · have d1 : decide (((s[k].toNat : Nat) : Int) < 48) = true := decide_eq_true hl
              clear hl
              go_wp2_with fail
              go_ret2
              exact ⟨rfl, rfl⟩
            · have d1 : decide (((s[k].toNat : Nat) : Int) < 48) = false := decide_eq_false hl
              by_cases hg : 57 < ((s[k].toNat : Nat) : Int)
              · have d2 : decide (57 < ((s[k].toNat : Nat) : Int)) = true := decide_eq_true hg
                clear hl hg
                go_wp2_with fail
                go_ret2
                exact ⟨rfl, rfl⟩
              · have d2 : decide (57 < ((s[k].toNat : Nat) : Int)) = false := decide_eq_false hg
                have H' : DigTo s (k + 1) := fun j hj hjk => by
                  by_cases e : j = k
                  · subst e; omega
                  · exact H j hj (by omega)
                clear hl hg H
                go_wp2_with fail
                go_round
                case rel => exact ⟨k + 1, by omega, by go_num, H'⟩
                case measure => simp [intOf]; omega
          · exact absurd (fun j hj => H j hj (by omega)) HD.out

set_option maxHeartbeats 1000000 in
set_option maxRecDepth 100000 in
theorem RRead_num (s : ByteArray) (hs : s.size ≤ 281474976710656) (w : World) (he : ¬ s.toList = [])
    (h1 : ∀ h0 : 0 < s.size, ((s[0].toNat : Nat) : Int) = 48 → (s.size : Int) ≤ 1) (hd : s.data.toList.all isDig = true) :
    Calls Tryd.prog 31 #[.string s] w fun e w' => e = .returned (.tuple #[.int .i64 (readN s.data.toList), .int .i64 (readE s.data.toList)]) ∧ w = w' := by
  have HN := Lib.hid (is_numeral he h1 hd)
  have hdd := (all_dig s).1 hd
  have HD := Lib.hid hdd
  have h0 : 0 < s.size := by
    rcases Nat.eq_zero_or_pos s.size with h' | h'
    · exact absurd (by rw [Lib.toList_data]; exact List.eq_nil_of_length_eq_zero (by rw [size_list]; exact h')) he
    · exact h'
  have b1 : ((s.size : Int) == 0) = false := beq_eq_false_iff_ne.2 (by omega)
  have key : (((s[0].toNat : Nat) : Int) == 48) = false ∨ ((((s[0].toNat : Nat) : Int) == 48) = true ∧ decide (1 < (s.size : Int)) = false) := by
    by_cases z1 : ((s[0].toNat : Nat) : Int) = 48
    · exact .inr ⟨by simpa using z1, decide_eq_false (by have := h1 h0 z1; omega)⟩
    · exact .inl (by simpa using z1)
  clear h1 hd he hdd
  rcases key with c1 | ⟨c1, c2⟩
  all_goals
    go_enter Tryd.func31, Tryd.ntmps31
    go_wp2_with fail
    go_loop [4] (fun i => ∃ k : Nat, k ≤ s.size ∧ i = .int .i64 k) (fun i => s.size - (intOf i).toNat)
    case atStart => exact ⟨0, Nat.zero_le _, rfl⟩
    case round =>
      obtain ⟨k, hk, rfl⟩ := hrel
      by_cases hlt : k < s.size
      · have hk2 := HD.out k hlt
        have d1 : decide (((s[k].toNat : Nat) : Int) < 48) = false := decide_eq_false (by omega)
        have d2 : decide (57 < ((s[k].toNat : Nat) : Int)) = false := decide_eq_false (by omega)
        clear hk2
        go_wp2_with fail
        go_round
        case rel => exact ⟨k + 1, by omega, by go_num⟩
        case measure => simp [intOf]; omega
      · go_wp2_with fail
        go_loop [5, 6] (fun n i => ∃ (k : Nat) (m : Int), k ≤ s.size ∧ i = .int .i64 k ∧ n = .int .i64 m ∧ 0 ≤ m ∧ m ≤ 4611686018427387903 ∧ ValTo s k m) (fun _ i => s.size - (intOf i).toNat)
        case atStart => exact ⟨0, 0, Nat.zero_le _, rfl, rfl, by decide, by decide, rfl⟩
        case round =>
          obtain ⟨j, m, hj, rfl, rfl, m0, m1, H⟩ := hrel
          by_cases hjt : j < s.size
          · have hk2 := HD.out j hjt
            have e0 : 48 ≤ ((s[j].toNat : Nat) : Int) := by omega
            have e1 : ((s[j].toNat : Nat) : Int) ≤ 57 := by omega
            have HV : Hid ((valD 0 (s.data.toList.take (j + 1)) : Int) = m * 10 + (((s[j].toNat : Nat) : Int) - 48)) := by
              have h2 := H
              unfold ValTo at h2
              show ((valD 0 (s.data.toList.take (j + 1)) : Nat) : Int) = _
              rw [take_snoc s j hjt, valD_snoc, h2]
              omega
            clear hk2
            by_cases hgt : (4611686018427387903 - (((s[j].toNat : Nat) : Int) - 48)) / 10 < m
            · have d3 : decide ((4611686018427387903 - (((s[j].toNat : Nat) : Int) - 48)) / 10 < m) = true := decide_eq_true hgt
              have HR : Hid (readN s.data.toList = 0 ∧ readE s.data.toList = 2) := by
                refine read_range HN.out ?_
                have := valD_take s.data.toList (j + 1)
                have := HV.out
                omega
              clear hgt
              go_wp2_with fail
              go_ret2
              exact ⟨by rw [HR.out.1, HR.out.2]; rfl, rfl⟩
            · have d3 : decide ((4611686018427387903 - (((s[j].toNat : Nat) : Int) - 48)) / 10 < m) = false := decide_eq_false hgt
              have q1 : m * 10 + (((s[j].toNat : Nat) : Int) - 48) ≤ 4611686018427387903 := by omega
              clear hgt
              go_wp2_with fail
              go_round
              case rel => exact ⟨j + 1, m * 10 + (((s[j].toNat : Nat) : Int) - 48), by omega, by go_num, by go_num, by omega, q1, HV.out.symm⟩
              case measure => simp [intOf]; omega
          · have hjs : s.data.toList.take j = s.data.toList := List.take_of_length_le (by rw [size_list]; omega)
            have HR : Hid (readN s.data.toList = m ∧ readE s.data.toList = 0) := by
              unfold ValTo at H
              rw [hjs] at H
              have := read_ok HN.out (by omega)
              exact ⟨by rw [this.1, H], this.2⟩
            clear hjs
            go_wp2_with fail
            go_ret2
            exact ⟨by rw [HR.out.1, HR.out.2]; rfl, rfl⟩

/-- the reference's Read -/
theorem RRead_any (s : ByteArray) (hs : s.size ≤ 281474976710656) (w : World) :
    Calls Tryd.prog 31 #[.string s] w fun e w' => e = .returned (.tuple #[.int .i64 (readN s.data.toList), .int .i64 (readE s.data.toList)]) ∧ w = w' := by
  by_cases hn : s.toList = [] ∨ (∃ h0 : 0 < s.size, ((s[0].toNat : Nat) : Int) = 48 ∧ 1 < (s.size : Int)) ∨ ¬ s.data.toList.all isDig = true
  · obtain ⟨r1, r2⟩ := not_numeral hn
    rw [r1, r2]
    exact RRead_not s hs w hn
  · simp only [not_or] at hn
    refine RRead_num s hs w hn.1 (fun h0 h48 => ?_) (Classical.not_not.1 hn.2.2)
    rcases Int.lt_or_le 1 (s.size : Int) with h | h
    · exact absurd ⟨h0, h48, h⟩ hn.2.1
    · exact h
end Go.Proofs.YteffobcelgbiiaaDoor
