/- Layer 5, walks: the reference's small functions. -/
import Derived.Test.YteffobcelgbiiaaDoorL2
namespace Go.Proofs.YteffobcelgbiiaaDoor
open Go.RowKit

set_option maxRecDepth 100000 in
theorem Rbody_any (c : UInt8) (w : World) : Calls Tryd.prog 45 #[.int .u8 ((c.toNat : Nat) : Int)] w fun e w' => e = .returned (.bool (bodyB c)) ∧ w = w' := by
  have e1 : (decide ((97 : Int) ≤ ((c.toNat : Nat) : Int)) && decide (((c.toNat : Nat) : Int) ≤ 122) || ((c.toNat : Nat) : Int) == 95) = smallB c := by rw [← smallI_byte]; rfl
  have e2 : (decide ((65 : Int) ≤ ((c.toNat : Nat) : Int)) && decide (((c.toNat : Nat) : Int) ≤ 90)) = greatB c := by rw [← greatI_byte]; rfl
  have e3 : (decide ((48 : Int) ≤ ((c.toNat : Nat) : Int)) && decide (((c.toNat : Nat) : Int) ≤ 57)) = isDig c := by rw [← digitI_byte]; rfl
  have key : bodyB c = ((decide ((97 : Int) ≤ ((c.toNat : Nat) : Int)) && decide (((c.toNat : Nat) : Int) ≤ 122)) || (decide ((65 : Int) ≤ ((c.toNat : Nat) : Int)) && decide (((c.toNat : Nat) : Int) ≤ 90)) || (decide ((48 : Int) ≤ ((c.toNat : Nat) : Int)) && decide (((c.toNat : Nat) : Int) ≤ 57)) || ((c.toNat : Nat) : Int) == 95) := by
    unfold bodyB
    rw [← e1, e2, e3]
    cases (decide ((97 : Int) ≤ ((c.toNat : Nat) : Int)) && decide (((c.toNat : Nat) : Int) ≤ 122)) <;> cases (((c.toNat : Nat) : Int) == 95) <;> cases greatB c <;> cases isDig c <;> rfl
  rw [key]
  clear key e1 e2 e3
  have c1 := Lib.hid (letter_any ((c.toNat : Nat) : Int) 97 122 w)
  have c2 := Lib.hid (letter_any ((c.toNat : Nat) : Int) 65 90 w)
  have c3 := Lib.hid (letter_any ((c.toNat : Nat) : Int) 48 57 w)
  generalize (decide ((97 : Int) ≤ ((c.toNat : Nat) : Int)) && decide (((c.toNat : Nat) : Int) ≤ 122)) = A at *
  generalize (decide ((65 : Int) ≤ ((c.toNat : Nat) : Int)) && decide (((c.toNat : Nat) : Int) ≤ 90)) = B at *
  generalize (decide ((48 : Int) ≤ ((c.toNat : Nat) : Int)) && decide (((c.toNat : Nat) : Int) ≤ 57)) = C at *
  cases A <;> cases B <;> cases C
  all_goals
    go_enter Tryd.func45, Tryd.ntmps45
    go_wp2_with fail
    refine c1.out.mono ?_; rintro e x1 ⟨rfl, rfl⟩; go_wp2_with fail
    try (refine c2.out.mono ?_; rintro e x1 ⟨rfl, rfl⟩; go_wp2_with fail)
    try (refine c3.out.mono ?_; rintro e x1 ⟨rfl, rfl⟩; go_wp2_with fail)
    go_ret
    exact ⟨rfl, rfl⟩

/-- how far a name's bytes go from a place on -/
def runEnd (s : ByteArray) (k : Nat) : Nat := k + (runL (s.data.toList.drop k)).length
theorem runEnd_end (s : ByteArray) (k : Nat) (h : s.size ≤ k) : runEnd s k = k := by
  unfold runEnd; rw [List.drop_of_length_le (by rw [size_list]; exact h)]; rfl
theorem runEnd_body (s : ByteArray) (k : Nat) (h : k < s.size) (hb : bodyB s[k] = true) : runEnd s k = runEnd s (k + 1) := by
  unfold runEnd runL; rw [drop_cons s k h, List.takeWhile_cons_of_pos hb, List.length_cons]; omega
theorem runEnd_stop (s : ByteArray) (k : Nat) (h : k < s.size) (hb : bodyB s[k] = false) : runEnd s k = k := by
  unfold runEnd runL; rw [drop_cons s k h, List.takeWhile_cons_of_neg (by simp [hb])]; rfl

set_option maxRecDepth 100000 in
theorem Rrun_any (s : ByteArray) (hs : s.size ≤ 1000000) (k0 : Nat) (hk0 : k0 ≤ s.size) (w : World) :
    Calls Tryd.prog 29 #[.string s, .int .i64 k0] w fun e w' => e = .returned (.int .i64 (runEnd s k0 : Nat)) ∧ w = w' := by
  have H0 : Hid (runEnd s k0 = runEnd s k0) := Lib.hid rfl
  generalize hE : runEnd s k0 = E at H0 ⊢
  have H1 := Lib.hid hE
  clear hE H0
  go_enter Tryd.func29, Tryd.ntmps29
  go_wp2_with fail
  go_outline
  go_loop [1] (fun i => ∃ k : Nat, i = .int .i64 k ∧ k ≤ s.size ∧ Hid (runEnd s k = E)) (fun i => s.size - (intOf i).toNat)
  case atStart => exact ⟨k0, rfl, hk0, H1⟩
  case round =>
    obtain ⟨k, rfl, hk, HK⟩ := hrel
    clear H1
    by_cases hlt : k < s.size
    · by_cases hb : bodyB s[k] = true
      · have HK2 := Lib.hid ((runEnd_body s k hlt hb).symm.trans HK.out)
        go_wp2_with fail
        refine (Rbody_any _ _).mono ?_; rintro e x1 ⟨rfl, rfl⟩; go_wp2_with fail
        go_round
        case rel => exact ⟨k + 1, by go_num, by omega, HK2⟩
        case measure => simp [intOf]; omega
      · have hb2 : bodyB s[k] = false := by simpa using hb
        have he := (runEnd_stop s k hlt hb2).symm.trans HK.out
        subst he
        clear hb HK
        go_wp2_with fail
        refine (Rbody_any _ _).mono ?_; rintro e x1 ⟨rfl, rfl⟩; go_wp2_with fail
        go_ret
        exact ⟨rfl, rfl⟩
    · have he := (runEnd_end s k (by omega)).symm.trans HK.out
      subst he
      clear HK
      go_wp2_with fail
      go_ret
      exact ⟨rfl, rfl⟩
end Go.Proofs.YteffobcelgbiiaaDoor
