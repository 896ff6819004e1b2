/- Layer 1, walks: word.Unquote. -/
import Derived.Test.YteffobcelgbiiaaDoorW10
import Derived.Deep.RegionWith
namespace Go.Proofs.YteffobcelgbiiaaDoor
open Go.RowKit

theorem loose_fuel : ∀ (n f g : Nat) (l : List UInt8), l.length ≤ n → l.length ≤ f → l.length ≤ g → loose f l = loose g l := by
  intro n
  induction n with
  | zero =>
    intro f g l hn _ _
    have : l = [] := List.eq_nil_of_length_eq_zero (by omega)
    subst this
    cases f <;> cases g <;> rfl
  | succ n ih =>
    intro f g l hn hf hg
    match l, hn, hf, hg with
    | [], _, _, _ => cases f <;> cases g <;> rfl
    | [x], _, hf, hg => 
      cases f with
      | zero => simp at hf
      | succ f => cases g with
        | zero => simp at hg
        | succ g => rfl
    | c :: d :: r, hn, hf, hg =>
      cases f with
      | zero => simp at hf
      | succ f => cases g with
        | zero => simp at hg
        | succ g =>
          simp only [List.length_cons] at hn hf hg
          have e1 := ih f g (d :: r) (by simp only [List.length_cons]; omega) (by simp only [List.length_cons]; omega) (by simp only [List.length_cons]; omega)
          have e2 := ih f g r (by omega) (by omega) (by omega)
          have e3 := ih f g (r.drop 2) (by simp only [List.length_drop]; omega) (by simp only [List.length_drop]; omega) (by simp only [List.length_drop]; omega)
          simp only [loose, e1, e2, e3]

/-- what is still to be unquoted from place k on -/
def rest (s : ByteArray) (k : Nat) : List UInt8 := loose s.size (s.data.toList.drop k)
theorem drop_cons (s : ByteArray) (k : Nat) (h : k < s.size) : s.data.toList.drop k = s[k] :: s.data.toList.drop (k + 1) := by
  rw [List.drop_eq_getElem_cons (by simpa using h)]; rfl
theorem rest_end (s : ByteArray) (k : Nat) (h : s.size ≤ k + 1) : rest s k = [] := by
  unfold rest
  by_cases hk : k < s.size
  · rw [drop_cons s k hk, List.drop_of_length_le (by rw [size_list]; omega)]
    cases s.size <;> rfl
  · rw [List.drop_of_length_le (by rw [size_list]; omega)]
    cases s.size <;> rfl
theorem drop_len (s : ByteArray) (k : Nat) : (s.data.toList.drop k).length = s.size - k := by rw [List.length_drop, size_list]
theorem rest_step (s : ByteArray) (k : Nat) (h : k + 1 < s.size) : rest s k = (if s[k] ≠ 92 then s[k] :: rest s (k + 1) else if s[k + 1] = 110 then 10 :: rest s (k + 2)
    else if s[k + 1] = 120 ∧ k + 3 < s.size then hexP (s.data.toList.getD (k + 2) 0) (s.data.toList.getD (k + 3) 0) :: rest s (k + 4) else s[k + 1] :: rest s (k + 2)) := by
  obtain ⟨n, hn⟩ : ∃ n, s.size = n + 1 := ⟨s.size - 1, by omega⟩
  have d1 := drop_len s (k + 1); have d2 := drop_len s (k + 2); have d4 := drop_len s (k + 4)
  have f1 : loose n (s.data.toList.drop (k + 1)) = rest s (k + 1) := loose_fuel _ _ _ _ (Nat.le_refl _) (by omega) (by omega)
  have f2 : loose n (s.data.toList.drop (k + 2)) = rest s (k + 2) := loose_fuel _ _ _ _ (Nat.le_refl _) (by omega) (by omega)
  have f4 : loose n (s.data.toList.drop (k + 4)) = rest s (k + 4) := loose_fuel _ _ _ _ (Nat.le_refl _) (by omega) (by omega)
  have e1 := drop_cons s (k + 1) h
  have hx : (s.data.toList.drop (k + 2)).drop 2 = s.data.toList.drop (k + 4) := by rw [List.drop_drop]
  have g0 : (s.data.toList.drop (k + 2)).getD 0 0 = s.data.toList.getD (k + 2) 0 := by simp [List.getD_eq_getElem?_getD]
  have g1 : (s.data.toList.drop (k + 2)).getD 1 0 = s.data.toList.getD (k + 3) 0 := by simp [List.getD_eq_getElem?_getD]
  have hl : (2 ≤ (s.data.toList.drop (k + 2)).length) ↔ k + 3 < s.size := by rw [d2]; omega
  have e0 : rest s k = loose (n + 1) (s[k] :: s[k + 1] :: s.data.toList.drop (k + 2)) := by
    have hgen : ∀ m, m = n + 1 → loose m (s.data.toList.drop k) = loose (n + 1) (s[k] :: s[k + 1] :: s.data.toList.drop (k + 2)) := by
      intro m hm
      subst hm
      rw [drop_cons s k (by omega), e1]
    exact hgen _ hn
  rw [e0, loose, ← e1, f1, f2, hx, f4, g0, g1]
  simp only [hl]

theorem hexV_spec (c : UInt8) : Lib.indexByte hexB c = hexV c := by
  have h : ∀ c : Fin 256, Lib.indexByte hexB (UInt8.ofNat c.val) = hexV (UInt8.ofNat c.val) := by decide +kernel
  have := h ⟨c.toNat, c.toNat_lt⟩
  simpa using this
theorem hexV_bd (c : UInt8) : -1 ≤ hexV c ∧ hexV c ≤ 15 := by
  have h : ∀ c : Fin 256, -1 ≤ hexV (UInt8.ofNat c.val) ∧ hexV (UInt8.ofNat c.val) ≤ 15 := by decide +kernel
  have := h ⟨c.toNat, c.toNat_lt⟩
  simpa using this
theorem hexP_spell (a b : UInt8) : IntKind.u8.wrap (bits .or .i64 (IntKind.i64.wrap (hexV a * 16)) (bits .and .i64 (hexV b) 15)) = (((hexP a b).toNat : Nat) : Int) := by
  have h : ∀ i j : Fin 17, IntKind.u8.wrap (bits .or .i64 (IntKind.i64.wrap (((i.val : Int) - 1) * 16)) (bits .and .i64 ((j.val : Int) - 1) 15)) = (((UInt8.ofNat (((((i.val : Int) - 1) * 16 % 256).toNat) ||| ((((j.val : Int) - 1) % 16).toNat))).toNat : Nat) : Int) := by decide +kernel
  have ha := hexV_bd a; have hb := hexV_bd b
  have h2 := h ⟨(hexV a + 1).toNat, by omega⟩ ⟨(hexV b + 1).toNat, by omega⟩
  have e1 : (((hexV a + 1).toNat : Nat) : Int) - 1 = hexV a := by omega
  have e2 : (((hexV b + 1).toNat : Nat) : Int) - 1 = hexV b := by omega
  simp only [e1, e2] at h2
  exact h2

theorem hexP_le (a b : UInt8) : (((hexP a b).toNat : Nat) : Int) ≤ 255 := by have := (hexP a b).toNat_lt; omega
theorem getD_at (s : ByteArray) (k : Nat) (h : k < s.size) : s.data.toList[k]? = some (s.data.toList.getD k 0) := by
  have h2 : k < s.data.toList.length := by rw [size_list]; exact h
  rw [List.getD_eq_getElem?_getD, List.getElem?_eq_getElem h2]; rfl
theorem getD_s (s : ByteArray) (k : Nat) (h : k < s.size) : s.data.toList.getD k 0 = s[k] := by
  have h2 : k < s.data.toList.length := by rw [size_list]; exact h
  rw [List.getD_eq_getElem?_getD, List.getElem?_eq_getElem h2]; rfl
theorem IndexByte_hex (c : UInt8) (w : World) : Calls Tryd.prog 40 #[.string ⟨#[48, 49, 50, 51, 52, 53, 54, 55, 56, 57, 97, 98, 99, 100, 101, 102]⟩, .int .u8 ((c.toNat : Nat) : Int)] w fun e w' => e = .returned (.int .i64 (hexV c)) ∧ w' = w := by
  have h := Tryd.strings_IndexByte ⟨#[48, 49, 50, 51, 52, 53, 54, 55, 56, 57, 97, 98, 99, 100, 101, 102]⟩ ((c.toNat : Nat) : Int) w
  have e : Lib.indexByte (⟨#[48, 49, 50, 51, 52, 53, 54, 55, 56, 57, 97, 98, 99, 100, 101, 102]⟩ : ByteArray).data.toList ((c.toNat : Nat) : Int).toNat.toUInt8 = hexV c := by
    have h1 : ((c.toNat : Nat) : Int).toNat.toUInt8 = c := by simp
    rw [h1]
    exact hexV_spec c
  rw [e] at h
  exact h

set_option maxHeartbeats 1000000 in
set_option maxRecDepth 100000 in
theorem Unquote_any (s : ByteArray) (hs : s.size ≤ 16777216) (w : World) :
    Calls Tryd.prog 26 #[.string s] w fun e w' => e = .returned (.tuple #[.string ⟨(unqT s.data.toList).toArray⟩, .int .i64 (unqE s.data.toList)]) ∧ Fr [] w w' := by
  go_enter Tryd.func26, Tryd.ntmps26
  go_wp2_with fail
  have hst := BI.start w
  generalize (w.alloc (.cells #[.pointer none, .slice none 0 0] 60)) = w1 at *
  generalize hbw : w.heap.size = b at *
  clear hbw
  have H0 : Hid ([] ++ rest s 1 = rest s 1) := Lib.hid rfl
  go_loopw [5] (fun i wr => ∃ (k : Nat) (acc : List UInt8), 1 ≤ k ∧ i = .int .i64 k ∧ BI w b none acc wr ∧ acc.length + 1 ≤ k ∧ k ≤ s.size + 1 ∧ Hid (acc ++ rest s k = rest s 1)) (fun i _ => s.size - (intOf i).toNat)
  case atStart => exact ⟨1, [], by omega, rfl, hst, by simp, by omega, H0⟩
  case round =>
    obtain ⟨k, acc, hk, rfl, hb, hal, hks, HR⟩ := hrel
    clear hst H0
    by_cases hlt : k + 1 < s.size
    · have d0 : decide (((k : Nat) : Int) < (s.size : Int) - 1) = true := decide_eq_true (by omega)
      have d1 : (((k : Nat) : Int) < (s.size : Int) - 1) := by omega
      have hr1 := rest_step s k hlt
      have hbk : UInt8.ofNat s[k].toNat = s[k] := UInt8.ofNat_toNat
      have HB := Lib.hid hbk
      have cl := s[k].toNat_lt
      have c0 : 0 ≤ ((s[k].toNat : Nat) : Int) := by omega
      have c1 : ((s[k].toNat : Nat) : Int) ≤ 255 := by omega
      by_cases e1 : s[k] = 92
      · rw [if_neg (by simpa using e1)] at hr1
        have b1 : (((s[k].toNat : Nat) : Int) == 92) = true := by rw [e1]; rfl
        have cl := s[k+1].toNat_lt
        have g0 : 0 ≤ ((s[k+1].toNat : Nat) : Int) := by omega
        have g1 : ((s[k+1].toNat : Nat) : Int) ≤ 255 := by omega
        have hb2 : UInt8.ofNat s[k+1].toNat = s[k+1] := UInt8.ofNat_toNat
        have HB2 := Lib.hid hb2
        clear c0 c1 hbk
        by_cases e2 : s[k+1] = 110
        · rw [if_pos e2] at hr1
          have b2 : (((s[k+1].toNat : Nat) : Int) == 110) = true := by rw [e2]; rfl
          have HQ := Lib.hid hr1
          clear hr1 hb2 cl e2 e1
          go_wp2_with fail
          refine (BI_byte _ _ _ _ _ _ (by omega) (by omega) hb (by omega)).mono ?_
          rintro e x1 ⟨rfl, hb1⟩
          go_wp2_with fail
          go_roundw
          case rel => exact ⟨k + 2, _, by omega, by go_num, hb1, by simp; omega, by omega, Lib.hid (by rw [← HR.out, HQ.out]; simp)⟩
          case measure => simp [intOf]; omega
        · rw [if_neg e2] at hr1
          have b2 : (((s[k+1].toNat : Nat) : Int) == 110) = false := by
            rw [beq_eq_false_iff_ne]; intro h; apply e2; apply UInt8.toNat_inj.1; have h9 : (110 : UInt8).toNat = 110 := rfl; omega
          by_cases e3 : s[k+1] = 120
          · have b3 : ((s[k+1].toNat : Nat) : Int) = 120 := by rw [e3]; rfl
            by_cases e4 : k + 3 < s.size
            · rw [if_pos ⟨e3, e4⟩] at hr1
              have HQ := Lib.hid hr1
              have b4 : ((k : Nat) : Int) + 1 + 2 < (s.size : Int) := by omega
              obtain ⟨k2, hk2⟩ : ∃ m : Nat, m = k + 2 := ⟨_, rfl⟩
              obtain ⟨k3, hk3⟩ : ∃ m : Nat, m = k + 3 := ⟨_, rfl⟩
              have v2 : IntKind.i64.wrap (((k : Nat) : Int) + 1 + 1) = (k2 : Int) := by rw [IntKind.wrap_i64]; omega
              have v3 : IntKind.i64.wrap (((k : Nat) : Int) + 1 + 2) = (k3 : Int) := by rw [IntKind.wrap_i64]; omega
              have q2 : 0 ≤ ((k2 : Nat) : Int) ∧ ((k2 : Nat) : Int) < (s.size : Int) := by omega
              have q3 : 0 ≤ ((k3 : Nat) : Int) ∧ ((k3 : Nat) : Int) < (s.size : Int) := by omega
              clear hr1 hb2 cl e2 e1 e3
              go_wp2_with fail
              go_region_with (first | (go_at_call 40; refine (IndexByte_hex _ _).mono ?_; rintro e w' ⟨rfl, rfl⟩) | (go_at_call 39; simp only [hexP_spell]; refine (BI_byte _ _ _ _ _ _ (Int.natCast_nonneg _) (hexP_le _ _) (hb.fr ((Fr.refl [] _).drew)) (by omega)).mono ?_; rintro e w' ⟨rfl, hb1⟩))
              all_goals
                go_wp2_with fail
                go_roundw
                case rel =>
                  refine ⟨k + 4, _, by omega, by go_num, hb1, by simp; omega, by omega, Lib.hid ?_⟩
                  rw [← HR.out, HQ.out, getD_s s (k + 2) (by omega), getD_s s (k + 3) (by omega)]
                  have p2 : (((k : Nat) : Int) + 2).toNat = k + 2 := by omega
                  have p3 : (((k : Nat) : Int) + 3).toNat = k + 3 := by omega
                  simp [p2, p3, UInt8.ofNat_toNat]
                case measure => simp [intOf]; omega
            · rw [if_neg (fun h => e4 h.2)] at hr1
              have HQ := Lib.hid hr1
              have HE := Lib.hid e3
              have b4 : ¬ ((k : Nat) : Int) + 1 + 2 < (s.size : Int) := by omega
              clear hr1 hb2 cl e2 e1 e3
              go_wp2_with fail
              refine (BI_byte _ _ _ _ _ _ (by omega) (by omega) hb (by omega)).mono ?_
              rintro e x1 ⟨rfl, hb1⟩
              go_wp2_with fail
              go_roundw
              case rel => exact ⟨k + 2, _, by omega, by go_num, hb1, by simp; omega, by omega, Lib.hid (by rw [← HR.out, HQ.out]; simp [HE.out])⟩
              case measure => simp [intOf]; omega
          · rw [if_neg (fun h => e3 h.1)] at hr1
            have HQ := Lib.hid hr1
            have b3 : ¬ ((s[k+1].toNat : Nat) : Int) = 120 := by
              intro h; apply e3; apply UInt8.toNat_inj.1; have h9 : (120 : UInt8).toNat = 120 := rfl; omega
            clear hr1 hb2 cl e2 e1 e3
            go_wp2_with fail
            refine (BI_byte _ _ _ _ _ _ (by omega) (by omega) hb (by omega)).mono ?_
            rintro e x1 ⟨rfl, hb1⟩
            go_wp2_with fail
            go_roundw
            case rel => exact ⟨k + 2, _, by omega, by go_num, hb1, by simp; omega, by omega, Lib.hid (by rw [← HR.out, HQ.out]; simp [HB2.out])⟩
            case measure => simp [intOf]; omega
      · rw [if_pos (by simpa using e1)] at hr1
        have HQ := Lib.hid hr1
        have b1 : (((s[k].toNat : Nat) : Int) == 92) = false := by
          rw [beq_eq_false_iff_ne]; intro h; apply e1; apply UInt8.toNat_inj.1; have h9 : (92 : UInt8).toNat = 92 := rfl; omega
        clear hr1 hbk cl e1
        go_wp2_with fail
        refine (BI_byte _ _ _ _ _ _ (by omega) (by omega) hb (by omega)).mono ?_
        rintro e x1 ⟨rfl, hb1⟩
        go_wp2_with fail
        go_roundw
        case rel => exact ⟨k + 1, _, by omega, by go_num, hb1, by simp; omega, by omega, Lib.hid (by rw [← HR.out, HQ.out]; simp [HB.out])⟩
        case measure => simp [intOf]; omega
    · have d0 : decide (((k : Nat) : Int) < (s.size : Int) - 1) = false := decide_eq_false (by omega)
      have d1 : ¬ (((k : Nat) : Int) < (s.size : Int) - 1) := by omega
      have hacc := HR.out
      rw [rest_end s k (by omega), List.append_nil] at hacc
      have HA := Lib.hid hacc
      clear HR hacc
      go_wp2_with fail
      refine (BI_string _ _ _ _ _ hb).mono ?_
      rintro e x1 ⟨rfl, hf⟩
      have hql := quotes_len acc
      go_wp2_with fail
      have hq : quoteL acc = s.data.toList ∨ ¬ quoteL acc = s.data.toList := Classical.em _
      refine (Quote_any ⟨acc.toArray⟩ (by simp only [ByteArray.size_mk', List.size_toArray]; omega) _).mono ?_
      rintro e x2 ⟨rfl, hf2⟩
      have hr : loose s.data.toList.length (s.data.toList.drop 1) = acc := by rw [HA.out, rest, size_list]
      rcases hq with hq | hq
      · have hq1 : (quoteL acc == s.toList) = true := by rw [ByteArray.toList_eq]; simpa using hq
        have hu : unq s.data.toList = some acc := by unfold unq; rw [hr, if_pos hq]
        have HT := Lib.hid (show unqT s.data.toList = acc by unfold unqT; rw [hu]; rfl)
        have HE := Lib.hid (show unqE s.data.toList = 0 by unfold unqE; rw [hu]; rfl)
        clear hq hu hr
        go_wp2_with fail
        go_ret2
        exact ⟨by rw [HT.out, HE.out]; rfl, hf.trans hf2⟩
      · have hq1 : (quoteL acc == s.toList) = false := by rw [ByteArray.toList_eq]; simpa using hq
        have hu : unq s.data.toList = none := by unfold unq; rw [hr, if_neg hq]
        have HT := Lib.hid (show unqT s.data.toList = [] by unfold unqT; rw [hu]; rfl)
        have HE := Lib.hid (show unqE s.data.toList = 5 by unfold unqE; rw [hu]; rfl)
        clear hq hu hr
        go_wp2_with fail
        go_ret2
        exact ⟨by rw [HT.out, HE.out]; rfl, hf.trans hf2⟩
end Go.Proofs.YteffobcelgbiiaaDoor
