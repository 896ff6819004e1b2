/- Layer 5, walks: where a quoted text ends, the reference's way. -/
import Derived.Test.YteffobcelgbiiaaDoorL4
namespace Go.Proofs.YteffobcelgbiiaaDoor
open Go.RowKit

/-- how many bytes 92 stand ahead of place i, behind place at -/
def bsAt (s : ByteArray) (a0 i : Nat) : Nat := bsOf ((s.data.toList.drop (a0 + 1)).take (i - (a0 + 1)))
theorem bsAt_zero (s : ByteArray) (a0 : Nat) : bsAt s a0 (a0 + 1) = 0 := by unfold bsAt; rw [Nat.sub_self]; rfl
theorem bsAt_succ (s : ByteArray) (a0 i : Nat) (h0 : a0 < i) (hi : i < s.size) : bsAt s a0 (i + 1) = if s[i] = 92 then bsAt s a0 i + 1 else 0 := by
  unfold bsAt
  have e : i + 1 - (a0 + 1) = (i - (a0 + 1)) + 1 := by omega
  have hl : i - (a0 + 1) < (s.data.toList.drop (a0 + 1)).length := by rw [drop_len]; omega
  rw [e, List.take_add_one, List.getElem?_eq_getElem hl]
  have e2 : (s.data.toList.drop (a0 + 1))[i - (a0 + 1)] = s[i] := by
    rw [List.getElem_drop]
    have : a0 + 1 + (i - (a0 + 1)) = i := by omega
    simp only [this]
    rfl
  rw [e2, Option.toList_some, bsOf_snoc]
def oddN (n : Nat) : Bool := n % 2 == 1
/-- what is still to be looked for at place i -/
def qat (s : ByteArray) (a0 i : Nat) : Option Nat := (q2 (oddN (bsAt s a0 i)) (s.data.toList.drop i)).map (· + i)
theorem qat_start (s : ByteArray) (a0 : Nat) : qat s a0 (a0 + 1) = qrest s (a0 + 1) := by
  unfold qat qrest qlen; rw [bsAt_zero]; rfl
theorem qat_end (s : ByteArray) (a0 i : Nat) (h : s.size ≤ i) : qat s a0 i = none := by
  unfold qat; rw [List.drop_of_length_le (by rw [size_list]; exact h)]; rfl
theorem qat_hit (s : ByteArray) (a0 i : Nat) (h : i < s.size) (hc : s[i] = 34) (hn : bsAt s a0 i % 2 = 0) : qat s a0 i = some (i + 1) := by
  unfold qat
  rw [drop_cons s i h, hc, q2]
  have : oddN (bsAt s a0 i) = false := by unfold oddN; rw [hn]; rfl
  rw [this]
  simp [Nat.add_comm]
theorem qat_step (s : ByteArray) (a0 i : Nat) (h0 : a0 < i) (h : i < s.size) (hn : ¬ (s[i] = 34 ∧ bsAt s a0 i % 2 = 0)) : qat s a0 i = qat s a0 (i + 1) := by
  unfold qat
  rw [drop_cons s i h, q2]
  have hodd : oddN (bsAt s a0 i) = false ↔ bsAt s a0 i % 2 = 0 := by unfold oddN; rw [beq_eq_false_iff_ne]; omega
  rw [if_neg (by rw [hodd]; exact hn)]
  have hp : (s[i] == 92 && !oddN (bsAt s a0 i)) = oddN (bsAt s a0 (i + 1)) := by
    rw [bsAt_succ s a0 i h0 h]
    by_cases hc : s[i] = 92
    · rw [if_pos hc, hc]
      unfold oddN
      rw [Bool.eq_iff_iff]
      simp
      omega
    · rw [if_neg hc]
      have : (s[i] == 92) = false := by rw [beq_eq_false_iff_ne]; exact hc
      rw [this]; rfl
  rw [hp]
  cases q2 (oddN (bsAt s a0 (i + 1))) (s.data.toList.drop (i + 1)) with
  | none => rfl
  | some k => simp; omega
def qint (o : Option Nat) : Int := match o with | none => -1 | some k => k

set_option maxHeartbeats 400000 in
set_option maxRecDepth 100000 in
theorem Rquote_any (s : ByteArray) (hs : s.size ≤ 1000000) (a0 : Nat) (ha : a0 < s.size) (w : World) :
    Calls Tryd.prog 32 #[.string s, .int .i64 a0] w fun e w' => e = .returned (.int .i64 (qint (qrest s (a0 + 1)))) ∧ w = w' := by
  have H0 := Lib.hid (qat_start s a0)
  generalize qrest s (a0 + 1) = Q at *
  go_enter Tryd.func32, Tryd.ntmps32
  go_wp2_with fail
  go_loop [5] (fun i => ∃ k : Nat, i = .int .i64 k ∧ a0 < k ∧ k ≤ s.size ∧ Hid (qat s a0 k = Q)) (fun i => s.size - (intOf i).toNat)
  case atStart => exact ⟨a0 + 1, by go_num, by omega, by omega, H0⟩
  case round =>
    obtain ⟨i, rfl, hi0, hi1, HK⟩ := hrel
    clear H0
    by_cases hlt : i < s.size
    · go_wp2_with fail
      go_loop [6, 7] (fun n k => ∃ (m j : Nat), n = .int .i64 m ∧ k = .int .i64 j ∧ a0 ≤ j ∧ m + j + 1 = i ∧ Hid (m + bsAt s a0 (j + 1) = bsAt s a0 i)) (fun _ k => (intOf k).toNat)
      case atStart => exact ⟨0, i - 1, rfl, by go_num, by omega, by omega, Lib.hid (by rw [show i - 1 + 1 = i by omega]; omega)⟩
      case round =>
        obtain ⟨m, j, rfl, rfl, hj0, hmj, HM⟩ := hrel
        by_cases hja : a0 < j
        · have hjs : j < s.size := by omega
          by_cases hc : s[j] = 92
          · have hb := bsAt_succ s a0 j hja hjs
            rw [if_pos hc] at hb
            have b1 : (((s[j].toNat : Nat) : Int) == 92) = true := by rw [hc]; rfl
            have HM2 : Hid ((m + 1) + bsAt s a0 ((j - 1) + 1) = bsAt s a0 i) := Lib.hid (by rw [← HM.out, hb, show j - 1 + 1 = j by omega]; omega)
            clear hc hb
            go_wp2_with fail
            go_round
            case rel => exact ⟨m + 1, j - 1, by go_num, by go_num, by omega, by omega, HM2⟩
            case measure => simp [intOf]; omega
          · have hb := bsAt_succ s a0 j hja hjs
            rw [if_neg hc] at hb
            have hm : m = bsAt s a0 i := by have := HM.out; omega
            have b1 : (((s[j].toNat : Nat) : Int) == 92) = false := by
              rw [beq_eq_false_iff_ne]; intro h; apply hc; apply UInt8.toNat_inj.1; have h9 : (92 : UInt8).toNat = 92 := rfl; omega
            clear hc hb HM
            by_cases hq : s[i] = 34
            · have b2 : (((s[i].toNat : Nat) : Int) == 34) = true := by rw [hq]; rfl
              have p2 : ((s[i].toNat : Nat) : Int) = 34 := by rw [hq]; rfl
              by_cases hev : m % 2 = 0
              · have he := (qat_hit s a0 i hlt hq (by omega)).symm.trans HK.out
                subst he
                have ev : (((m : Nat) : Int) % 2 == 0) = true := by rw [beq_iff_eq]; omega
                clear HK hq
                go_wp2_with fail
                go_ret
                exact ⟨rfl, rfl⟩
              · have HK2 := Lib.hid ((qat_step s a0 i hi0 hlt (fun h => hev (by have := h.2; omega))).symm.trans HK.out)
                have ev : (((m : Nat) : Int) % 2 == 0) = false := by rw [beq_eq_false_iff_ne]; omega
                clear hq
                go_wp2_with fail
                go_round
                case rel => exact ⟨i + 1, by go_num, by omega, by omega, HK2⟩
                case measure => simp [intOf]; omega
            · have b2 : (((s[i].toNat : Nat) : Int) == 34) = false := by
                rw [beq_eq_false_iff_ne]; intro h; apply hq; apply UInt8.toNat_inj.1; have h9 : (34 : UInt8).toNat = 34 := rfl; omega
              have p2 : ¬ ((s[i].toNat : Nat) : Int) = 34 := by
                intro h; apply hq; apply UInt8.toNat_inj.1; have h9 : (34 : UInt8).toNat = 34 := rfl; omega
              have HK2 := Lib.hid ((qat_step s a0 i hi0 hlt (fun h => hq h.1)).symm.trans HK.out)
              clear hq
              go_wp2_with fail
              go_round
              case rel => exact ⟨i + 1, by go_num, by omega, by omega, HK2⟩
              case measure => simp [intOf]; omega
        · have hja2 : j = a0 := by omega
          subst hja2
          have hb := bsAt_zero s j
          have hm : m = bsAt s j i := by have := HM.out; omega
          clear hb HM
          by_cases hq : s[i] = 34
          · have b2 : (((s[i].toNat : Nat) : Int) == 34) = true := by rw [hq]; rfl
            have p2 : ((s[i].toNat : Nat) : Int) = 34 := by rw [hq]; rfl
            by_cases hev : m % 2 = 0
            · have he := (qat_hit s j i hlt hq (by omega)).symm.trans HK.out
              subst he
              have ev : (((m : Nat) : Int) % 2 == 0) = true := by rw [beq_iff_eq]; omega
              clear HK hq
              go_wp2_with fail
              go_ret
              exact ⟨rfl, rfl⟩
            · have HK2 := Lib.hid ((qat_step s j i hi0 hlt (fun h => hev (by have := h.2; omega))).symm.trans HK.out)
              have ev : (((m : Nat) : Int) % 2 == 0) = false := by rw [beq_eq_false_iff_ne]; omega
              clear hq
              go_wp2_with fail
              go_round
              case rel => exact ⟨i + 1, by go_num, by omega, by omega, HK2⟩
              case measure => simp [intOf]; omega
          · have b2 : (((s[i].toNat : Nat) : Int) == 34) = false := by
              rw [beq_eq_false_iff_ne]; intro h; apply hq; apply UInt8.toNat_inj.1; have h9 : (34 : UInt8).toNat = 34 := rfl; omega
            have p2 : ¬ ((s[i].toNat : Nat) : Int) = 34 := by
              intro h; apply hq; apply UInt8.toNat_inj.1; have h9 : (34 : UInt8).toNat = 34 := rfl; omega
            have HK2 := Lib.hid ((qat_step s j i hi0 hlt (fun h => hq h.1)).symm.trans HK.out)
            clear hq
            go_wp2_with fail
            go_round
            case rel => exact ⟨i + 1, by go_num, by omega, by omega, HK2⟩
            case measure => simp [intOf]; omega
    · have he := (qat_end s a0 i (by omega)).symm.trans HK.out
      subst he
      clear HK
      go_wp2_with fail
      go_ret
      exact ⟨rfl, rfl⟩
end Go.Proofs.YteffobcelgbiiaaDoor
