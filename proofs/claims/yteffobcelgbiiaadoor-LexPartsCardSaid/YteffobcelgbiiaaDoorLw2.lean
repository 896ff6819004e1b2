/- Layer 5, walks: the law LexParts. -/
import Derived.Test.YteffobcelgbiiaaDoorLw
namespace Go.Proofs.YteffobcelgbiiaaDoor
open Go.RowKit

set_option maxHeartbeats 1000000 in
set_option maxRecDepth 100000 in
theorem LexParts_walk (s : ByteArray) (hs : s.size ≤ 9223372036854775807) (w : World) (hE : EnvL w) :
    Calls Tryd.prog 5 #[.string s] w fun e w' => e = .returned (.bool true) ∧ Fr [] w w' := by
  cases hl : lexOf s.data.toList with
  | error x =>
    obtain ⟨er, p⟩ := x
    have c1 := fun w hE => Lib.hid (Lex_er s hs hl w hE)
    have her : ¬ er = 0 := by rcases lexOf_err hl with h | h <;> omega
    have hp : (p : Int) < (s.size : Int) := by rcases lexOf_err hl with h | h <;> (rw [size_list] at h; omega)
    have hp0 : 0 ≤ (p : Int) := by omega
    clear hl
    go_enter Tryd.func5, Tryd.ntmps5
    go_wp2_with fail
    refine (awake5_any _ hE).mono ?_; rintro e w1 ⟨rfl, f1⟩; go_wp2_with fail
    refine (c1 _ (hE.fr f1)).out.mono ?_; rintro e w2 ⟨rfl, f2⟩; go_wp2_with fail
    go_ret
    exact ⟨rfl, f1.trans f2⟩
  | ok ts =>
    have c1 := fun w hE => Lib.hid (Lex_ok s hs hl w hE)
    obtain ⟨hsz, hlx, hlen, hbd, _⟩ := lexOf_ok hl
    rw [size_list] at hsz
    have HT := Lib.hid (lexL_tiles s.data.toList s.data.toList.length 0 ts (Nat.zero_le _) (by rw [List.drop_zero]; exact hlx))
    have HBD := Lib.hid hbd
    clear hl hbd hlx
    go_enter Tryd.func5, Tryd.ntmps5
    go_wp2_with fail
    refine (awake5_any _ hE).mono ?_; rintro e w1 ⟨rfl, f1⟩; go_wp2_with fail
    refine (c1 _ (hE.fr f1)).out.mono ?_; rintro e w2 ⟨⟨g1, d1, rfl, hg1, hR1⟩, f2⟩; go_wp2_with fail
    have f12 := f1.trans f2
    clear f1 f2 c1
    go_loopw [6, 39] (fun x i wr => ∃ k p : Nat, i = .int .i64 k ∧ k ≤ ts.length ∧ x = .int .i64 p ∧ p ≤ s.size ∧ Hid (Tiles s.data.toList p (ts.drop k)) ∧ Fr [] w2 wr) (fun _ i _ => ts.length - (intOf i).toNat)
    case atStart => exact ⟨0, 0, rfl, by omega, rfl, by omega, HT, Fr.refl _ _⟩
    case round =>
      obtain ⟨k, p, rfl, hk, rfl, hp, HK, fr⟩ := hrel
      by_cases hlt : k < ts.length
      · have hR := hR1.fr fr hg1
        have ht : ts[k]? = some ts[k] := List.getElem?_eq_getElem hlt
        have a0 := hR.c0 k _ ht
        have a1 := hR.c1 k _ ht
        have a2 := hR.c2 k _ ht
        have a3 := hR.c3 k _ ht
        have hb := HBD.out _ (List.getElem_mem hlt)
        have cT := fun w => Lib.hid (RText5_any ts[k] (by have := hb.n0; omega) (by have := hb.n1; omega) (by have := hb.x; omega) w)
        have hti := HK.out
        have hdr : ts.drop k = ts[k] :: ts.drop (k + 1) := List.drop_eq_getElem_cons hlt
        rw [hdr] at hti
        have hend : ts.drop (k + 1) = [] ↔ ts.length ≤ k + 1 := List.drop_eq_nil_iff
        obtain ⟨hbk0, _, hba, _, _, _, hbl⟩ := hb
        clear ht hR HK hdr
        generalize ts[k] = t at *
        obtain ⟨tk, ta, tt, tn⟩ := t
        simp only at a0 a1 a2 a3 cT hba hbl hbk0
        obtain ⟨h1, h2, h3, h4, h5, h6⟩ := hti
        simp only at h1 h2 h3 h4 h5 h6
        rw [size_list] at h2
        rw [hend] at h3
        have H4 := Lib.hid h4
        have HT6 := Lib.hid h6
        have d1 : decide ((ta : Int) < (p : Int)) = false := decide_eq_false (by omega)
        have d2 : decide ((s.size : Int) < (ta : Int)) = false := decide_eq_false (by omega)
        clear h4 h6 hend
        by_cases htk : tk = 0
        · have hke := h3.1 htk
          have d3 : ((k : Int) == (ts.length : Int) - 1) = true := by rw [beq_iff_eq]; omega
          have HT7 := Lib.hid (show Tiles s.data.toList ta (ts.drop (k + 1)) by have := HT6.out; rw [if_pos htk] at this; exact this)
          clear HT6 h5 h3
          subst htk
          go_wp2_with fail
          go_loop [8] (fun q => ∃ j : Nat, q = .int .i64 j ∧ p ≤ j ∧ j ≤ ta) (fun q => ta - (intOf q).toNat)
          case atStart => exact ⟨p, rfl, by omega, by omega⟩
          case round =>
            obtain ⟨j, rfl, hj0, hj1⟩ := hrel
            by_cases hjt : j < ta
            · have hjs : j < s.size := by omega
              have key : (((s[j].toNat : Nat) : Int) != 32) = false ∨ ((((s[j].toNat : Nat) : Int) != 32) = true ∧ (((s[j].toNat : Nat) : Int) != 10) = false) := by
                obtain ⟨c, hc, hb⟩ := H4.out j hj0 hjt
                have : s[j] = c := by
                  have h9 : s.data.toList[j]? = some s[j] := List.getElem?_eq_getElem (by rw [size_list]; exact hjs)
                  rw [hc] at h9; cases h9; rfl
                rw [this]
                rcases blank_cases hb with rfl | rfl
                · left; rfl
                · right; exact ⟨rfl, rfl⟩
              rcases key with b1 | ⟨b1, b2⟩
              all_goals
                go_wp2_with fail
                go_round
                case rel => exact ⟨j + 1, by go_num, by omega, by omega⟩
                case measure => simp [intOf]; omega
            · go_wp2_with fail
              go_roundw
              case rel => exact ⟨k + 1, ta, by go_num, by omega, rfl, by omega, HT7, fr⟩
              case measure => simp [intOf]; omega
        · have hke : ¬ ts.length ≤ k + 1 := fun h => htk (h3.2 h)
          have d3 : ((k : Int) == (ts.length : Int) - 1) = false := by rw [beq_eq_false_iff_ne]; omega
          have d4 : (tk == 0) = false := by rw [beq_eq_false_iff_ne]; exact htk
          have d5 : (tk != 0) = true := by rw [bne_iff_ne]; exact htk
          obtain ⟨h5a, h5b⟩ := h5 htk
          have HT7 := Lib.hid (show Tiles s.data.toList (ta + (tokText tk tt tn).length) (ts.drop (k + 1)) by have := HT6.out; rw [if_neg htk] at this; exact this)
          have hex := ext_at s ta (tokText tk tt tn).length
          rw [h5b] at hex
          rw [size_list] at h5a
          have HX := Lib.hid hex
          generalize tokText tk tt tn = X at *
          have d6 : ((s.extract ta (ta + X.length)).toList == X) = true := by rw [HX.out, ByteArray.toList_eq]; simp
          clear HT6 h5 h3 h5b hex
          go_wp2_with fail
          go_loop [8] (fun q => ∃ j : Nat, q = .int .i64 j ∧ p ≤ j ∧ j ≤ ta) (fun q => ta - (intOf q).toNat)
          case atStart => exact ⟨p, rfl, by omega, by omega⟩
          case round =>
            obtain ⟨j, rfl, hj0, hj1⟩ := hrel
            by_cases hjt : j < ta
            · have hjs : j < s.size := by omega
              have key : (((s[j].toNat : Nat) : Int) != 32) = false ∨ ((((s[j].toNat : Nat) : Int) != 32) = true ∧ (((s[j].toNat : Nat) : Int) != 10) = false) := by
                obtain ⟨c, hc, hb⟩ := H4.out j hj0 hjt
                have : s[j] = c := by
                  have h9 : s.data.toList[j]? = some s[j] := List.getElem?_eq_getElem (by rw [size_list]; exact hjs)
                  rw [hc] at h9; cases h9; rfl
                rw [this]
                rcases blank_cases hb with rfl | rfl
                · left; rfl
                · right; exact ⟨rfl, rfl⟩
              rcases key with b1 | ⟨b1, b2⟩
              all_goals
                go_wp2_with fail
                go_round
                case rel => exact ⟨j + 1, by go_num, by omega, by omega⟩
                case measure => simp [intOf]; omega
            · have q2 : 0 ≤ (ta : Int) ∧ (ta : Int) ≤ (ta : Int) + (X.length : Int) ∧ (ta : Int) + (X.length : Int) ≤ (s.size : Int) := by omega
              have q1 : decide ((s.size : Int) < (ta : Int) + (X.length : Int)) = false := decide_eq_false (by omega)
              go_wp2_with fail
              refine (cT _).out.mono ?_; rintro e w3 ⟨rfl, f3⟩; go_wp2_with fail
              go_roundw
              case rel => exact ⟨k + 1, ta + X.length, by go_num, by omega, by go_num, by omega, HT7, fr.trans f3⟩
              case measure => simp [intOf]; omega
      · have hke : p = s.size := by
          have := HK.out
          rw [List.drop_of_length_le (by omega)] at this
          exact this
        subst hke
        go_wp2_with fail
        go_ret
        exact ⟨by simp, f12.trans fr⟩
end Go.Proofs.YteffobcelgbiiaaDoor
