/- Layer 1, walks: reading a number. -/
import Derived.Test.YteffobcelgbiiaaDoorW6
import Derived.Shelf.Strings.SlTrimAscii
namespace Go.Proofs.YteffobcelgbiiaaDoor
open Go.RowKit

theorem Trim_digits (s : ByteArray) (hs : s.size ≤ 9223372036854775807) (w : World) :
    Calls Tryd.prog 37 #[.string s, .string ⟨#[48, 49, 50, 51, 52, 53, 54, 55, 56, 57]⟩] w fun e w' => e = .returned (.string ⟨(Lib.trimS s.data.toList digitsB).toArray⟩) ∧ Fr [] w w' :=
  (Any.strings_Trim_laid Tryd.lays160 (by kernel_rfl) s ⟨#[48, 49, 50, 51, 52, 53, 54, 55, 56, 57]⟩ w hs (by decide) (ascii_of_all (by decide))).mono fun _ _ ⟨he, hb⟩ => ⟨he, Fr.of_below hb⟩

theorem head_byte (s : ByteArray) (h : 0 < s.size) : s.data.toList.head? = some s[0] := by
  rw [List.head?_eq_getElem?, List.getElem?_eq_getElem (by simpa using h)]
  rfl
theorem not_numeral {s : ByteArray} (h : s.toList = [] ∨ (∃ h0 : 0 < s.size, ((s[0].toNat : Nat) : Int) = 48 ∧ 1 < (s.size : Int)) ∨ ¬ s.data.toList.all isDig = true) : readN s.data.toList = 0 ∧ readE s.data.toList = 5 := by
  have hn : numeral s.data.toList = false := by
    unfold numeral
    rcases h with h | ⟨h0, h48, h1⟩ | h
    · rw [Lib.toList_data] at h
      simp [h]
    · have hh := head_byte s h0
      have e48 : s[0] = 48 := by
        have : s[0].toNat = (48 : UInt8).toNat := by
          have : (48 : UInt8).toNat = 48 := rfl
          omega
        exact UInt8.toNat_inj.1 this
      have hl : 1 < s.data.toList.length := by have := size_list s; omega
      rw [hh, e48]
      simp only [beq_self_eq_true, Bool.true_and, decide_eq_true hl, Bool.or_true, Bool.true_or, Bool.not_true]
    · have : s.data.toList.all isDig = false := by simpa using h
      rw [this]
      simp only [Bool.not_false, Bool.or_true, Bool.not_true]
  unfold readN readE
  rw [hn]
  simp
theorem is_numeral {s : ByteArray} (h : ¬ s.toList = []) (h1 : ∀ h0 : 0 < s.size, ((s[0].toNat : Nat) : Int) = 48 → (s.size : Int) ≤ 1) (hd : s.data.toList.all isDig = true) : numeral s.data.toList = true := by
  rw [Lib.toList_data] at h
  have h0 : 0 < s.size := by
    rcases Nat.eq_zero_or_pos s.size with h' | h'
    · exact absurd (List.eq_nil_of_length_eq_zero (by rw [size_list]; exact h')) h
    · exact h'
  unfold numeral
  rw [hd, head_byte s h0]
  have hne : s.data.toList.isEmpty = false := by simpa using h
  rw [hne]
  have : (some s[0] == some (48 : UInt8) && decide (1 < s.data.toList.length)) = false := by
    by_cases e : s[0] = 48
    · have := h1 h0 (by rw [e]; rfl)
      have h2 : ¬ 1 < s.data.toList.length := by rw [size_list]; omega
      rw [decide_eq_false h2, Bool.and_false]
    · have : (some s[0] == some (48 : UInt8)) = false := by simpa using e
      rw [this, Bool.false_and]
  rw [this]
  rfl
/-- what ParseInt makes of a numeral -/
theorem parse_numeral {l : List UInt8} (h : numeral l = true) : Lib.parseIntB 64 l = if valD 0 l ≤ 9223372036854775807 then .ok (valD 0 l : Int) else .range := by
  unfold numeral at h
  simp only [Bool.not_eq_true', Bool.or_eq_false_iff] at h
  obtain ⟨⟨hne, _⟩, hd⟩ := h
  have hd' : l.all isDig = true := by simpa using hd
  cases l with
  | nil => simp at hne
  | cons c r =>
    have hc : isDig c = true := by
      simp only [List.all_cons, Bool.and_eq_true] at hd'
      exact hd'.1
    have hc' := (isDig_iff c).1 hc
    unfold Lib.parseIntB
    have e1 : ¬ (c.toNat = 43 ∨ c.toNat = 45) := by omega
    have e2 : ¬ c.toNat = 45 := by omega
    simp only [if_neg e1]
    have hp : Lib.parseUintB 64 (c :: r) = Lib.parseUintM (2 ^ 64 - 1) 0 (c :: r) := by unfold Lib.parseUintB; rw [if_neg (by simp)]
    rw [hp, parseUintM_dig _ (by decide) _ 0 (Nat.zero_le _) hd']
    generalize valD 0 (c :: r) = v
    by_cases hv : v ≤ 2 ^ 64 - 1
    · rw [if_pos hv]
      by_cases hw : v ≤ 9223372036854775807
      · rw [if_pos hw]
        show (if ¬ c.toNat = 45 ∧ 2 ^ (64 - 1) ≤ v then Lib.NumEnd.range else if c.toNat = 45 ∧ 2 ^ (64 - 1) < v then Lib.NumEnd.range else Lib.NumEnd.ok (if c.toNat = 45 then -(v : Int) else v)) = _
        rw [if_neg (by omega), if_neg (by omega), if_neg e2]
      · rw [if_neg hw]
        show (if ¬ c.toNat = 45 ∧ 2 ^ (64 - 1) ≤ v then Lib.NumEnd.range else if c.toNat = 45 ∧ 2 ^ (64 - 1) < v then Lib.NumEnd.range else Lib.NumEnd.ok (if c.toNat = 45 then -(v : Int) else v)) = _
        rw [if_pos (by omega)]
    · rw [if_neg hv, if_neg (by omega)]

theorem read_ok {l : List UInt8} (h : numeral l = true) (hv : valD 0 l ≤ 4611686018427387903) : readN l = valD 0 l ∧ readE l = 0 := by
  unfold readN readE; rw [if_pos ⟨h, hv⟩, if_pos h, if_pos hv]; exact ⟨rfl, rfl⟩
theorem read_range {l : List UInt8} (h : numeral l = true) (hv : ¬ valD 0 l ≤ 4611686018427387903) : readN l = 0 ∧ readE l = 2 := by
  unfold readN readE; rw [if_neg (fun h' => hv h'.2), if_pos h, if_neg hv]; exact ⟨rfl, rfl⟩

set_option maxHeartbeats 400000 in
set_option maxRecDepth 100000 in
/-- not a numeral -/
theorem Read_not (s : ByteArray) (hs : s.size ≤ 281474976710656) (w : World)
    (hn : s.toList = [] ∨ (∃ h0 : 0 < s.size, ((s[0].toNat : Nat) : Int) = 48 ∧ 1 < (s.size : Int)) ∨ ¬ s.data.toList.all isDig = true) :
    Calls Tryd.prog 24 #[.string s] w fun e w' => e = .returned (.tuple #[.int .i64 0, .int .i64 5]) ∧ Fr [] w w' := by
  have HT := Lib.hid (Trim_digits s (by omega) w)
  have hiff := trimS_digits s.data.toList
  generalize Lib.trimS s.data.toList digitsB = t at *
  by_cases he : s.toList = []
  · clear hiff hn
    go_enter Tryd.func24, Tryd.ntmps24
    go_wp2_with fail
    go_ret2
    exact ⟨rfl, Fr.refl _ _⟩
  · have h0 : 0 < s.size := by
      rcases Nat.eq_zero_or_pos s.size with h' | h'
      · exact absurd (by rw [Lib.toList_data]; exact List.eq_nil_of_length_eq_zero (by rw [size_list]; exact h')) he
      · exact h'
    have b1 : s.toList.isEmpty = false := by simpa using he
    by_cases z1 : ((s[0].toNat : Nat) : Int) = 48
    · have c1 : (((s[0].toNat : Nat) : Int) == 48) = true := by simpa using z1
      by_cases z2 : 1 < (s.size : Int)
      · have c2 : decide (1 < (s.size : Int)) = true := decide_eq_true z2
        clear hiff hn he z1 z2
        go_enter Tryd.func24, Tryd.ntmps24
        go_wp2_with fail
        go_ret2
        exact ⟨rfl, Fr.refl _ _⟩
      · have c2 : decide (1 < (s.size : Int)) = false := decide_eq_false z2
        have htne : t ≠ [] := by
          intro h
          rcases hn with hn | ⟨_, hn⟩ | hn
          · exact he hn
          · exact z2 hn.2
          · exact hn (hiff.1 h)
        have c3 : t.isEmpty = false := by simpa using htne
        clear hiff hn he z1 z2 htne
        go_enter Tryd.func24, Tryd.ntmps24
        go_wp2_with fail
        refine HT.out.mono ?_
        rintro e w1 ⟨rfl, hf⟩
        go_wp2_with fail
        go_ret2
        exact ⟨rfl, hf⟩
    · have c1 : (((s[0].toNat : Nat) : Int) == 48) = false := by simpa using z1
      have htne : t ≠ [] := by
        intro h
        rcases hn with hn | ⟨_, hn⟩ | hn
        · exact he hn
        · exact z1 hn.1
        · exact hn (hiff.1 h)
      have c3 : t.isEmpty = false := by simpa using htne
      clear hiff hn he z1 htne
      go_enter Tryd.func24, Tryd.ntmps24
      go_wp2_with fail
      refine HT.out.mono ?_
      rintro e w1 ⟨rfl, hf⟩
      go_wp2_with fail
      go_ret2
      exact ⟨rfl, hf⟩

theorem bytesWorld_fr {w w' : World} {T : TypeId} (h : w' = w ∨ ∃ t, w' = Lib.bytesWorld w T t) : Fr [] w w' := by
  rcases h with rfl | ⟨t, rfl⟩
  · exact Fr.refl _ _
  · exact Fr.of_below (Lib.bytesWorld_below _ _ _)

set_option maxHeartbeats 400000 in
set_option maxRecDepth 100000 in
/-- a numeral: what ParseInt makes of it decides -/
theorem Read_num (s : ByteArray) (hs : s.size ≤ 281474976710656) (w : World) (hE : Env w) (he : ¬ s.toList = [])
    (h1 : ∀ h0 : 0 < s.size, ((s[0].toNat : Nat) : Int) = 48 → (s.size : Int) ≤ 1) (hd : s.data.toList.all isDig = true) :
    Calls Tryd.prog 24 #[.string s] w fun e w' => e = .returned (.tuple #[.int .i64 (readN s.data.toList), .int .i64 (readE s.data.toList)]) ∧ Fr [] w w' := by
  have hnum := is_numeral he h1 hd
  have hp := parse_numeral hnum
  have HT := Lib.hid (Trim_digits s (by omega) w)
  rw [(trimS_digits s.data.toList).2 hd] at HT
  have h0 : 0 < s.size := by
    rcases Nat.eq_zero_or_pos s.size with h' | h'
    · exact absurd (by rw [Lib.toList_data]; exact List.eq_nil_of_length_eq_zero (by rw [size_list]; exact h')) he
    · exact h'
  have b1 : s.toList.isEmpty = false := by simpa using he
  have key : (((s[0].toNat : Nat) : Int) == 48) = false ∨ ((((s[0].toNat : Nat) : Int) == 48) = true ∧ decide (1 < (s.size : Int)) = false) := by
    by_cases z1 : ((s[0].toNat : Nat) : Int) = 48
    · exact .inr ⟨by simpa using z1, decide_eq_false (by have := h1 h0 z1; omega)⟩
    · exact .inl (by simpa using z1)
  clear h1 hd he
  by_cases hv : valD 0 s.data.toList ≤ 9223372036854775807
  · rw [if_pos hv] at hp
    have HP := Lib.hid (fun W : World => Lib.hid (Tryd.strconv_ParseInt_10_at64_ok s (by omega) _ hp W))
    have hle : (0 : Int) ≤ (valD 0 s.data.toList : Int) := by omega
    by_cases hm : valD 0 s.data.toList ≤ 4611686018427387903
    · obtain ⟨r1, r2⟩ := read_ok hnum hm
      rw [r1, r2]
      have c4 : decide (4611686018427387903 < (valD 0 s.data.toList : Int)) = false := decide_eq_false (by omega)
      generalize ((valD 0 s.data.toList : Nat) : Int) = v at *
      clear hp hnum hv hm r1 r2 hle
      rcases key with c1 | ⟨c1, c2⟩
      all_goals
        go_enter Tryd.func24, Tryd.ntmps24
        go_wp2_with fail
        refine HT.out.mono ?_
        rintro e w1 ⟨rfl, hf⟩
        go_wp2_with fail
        refine (HP.out _).out.mono ?_
        rintro e w2 ⟨rfl, hw⟩
        have hf2 := bytesWorld_fr hw
        clear hw
        go_wp2_with fail
        go_ret2
        exact ⟨rfl, hf.trans hf2⟩
    · obtain ⟨r1, r2⟩ := read_range hnum hm
      rw [r1, r2]
      have c4 : decide (4611686018427387903 < (valD 0 s.data.toList : Int)) = true := decide_eq_true (by omega)
      generalize ((valD 0 s.data.toList : Nat) : Int) = v at *
      clear hp hnum hv hm r1 r2 hle
      rcases key with c1 | ⟨c1, c2⟩
      all_goals
        go_enter Tryd.func24, Tryd.ntmps24
        go_wp2_with fail
        refine HT.out.mono ?_
        rintro e w1 ⟨rfl, hf⟩
        go_wp2_with fail
        refine (HP.out _).out.mono ?_
        rintro e w2 ⟨rfl, hw⟩
        have hf2 := bytesWorld_fr hw
        clear hw
        go_wp2_with fail
        go_ret2
        exact ⟨rfl, hf.trans hf2⟩
  · rw [if_neg hv] at hp
    have HP := Lib.hid (fun (W : World) (hW : Env W) => Lib.hid (Tryd.strconv_ParseInt_10_at64_range_var s hs hp hW.rng.choose hW.rng.choose_spec.choose W hW.rng.choose_spec.choose_spec))
    obtain ⟨r1, r2⟩ := read_range hnum (by omega)
    rw [r1, r2]
    clear hp hnum hv r1 r2
    rcases key with c1 | ⟨c1, c2⟩
    all_goals
      go_enter Tryd.func24, Tryd.ntmps24
      go_wp2_with fail
      refine HT.out.mono ?_
      rintro e w1 ⟨rfl, hf⟩
      go_wp2_with fail
      refine (HP.out _ (hE.fr hf)).out.mono ?_
      rintro e w2 ⟨N, rfl, _, _, hw⟩
      have hf2 := Fr.of_below hw
      clear hw
      go_wp2_with fail
      go_ret2
      exact ⟨rfl, hf.trans hf2⟩

/-- word.Read -/
theorem Read_any (s : ByteArray) (hs : s.size ≤ 281474976710656) (w : World) (hE : Env w) :
    Calls Tryd.prog 24 #[.string s] w fun e w' => e = .returned (.tuple #[.int .i64 (readN s.data.toList), .int .i64 (readE s.data.toList)]) ∧ Fr [] w w' := by
  by_cases hn : s.toList = [] ∨ (∃ h0 : 0 < s.size, ((s[0].toNat : Nat) : Int) = 48 ∧ 1 < (s.size : Int)) ∨ ¬ s.data.toList.all isDig = true
  · obtain ⟨r1, r2⟩ := not_numeral hn
    rw [r1, r2]
    exact Read_not s hs w hn
  · simp only [not_or] at hn
    refine Read_num s hs w hE hn.1 (fun h0 h48 => ?_) (Classical.not_not.1 hn.2.2)
    rcases Int.lt_or_le 1 (s.size : Int) with h | h
    · exact absurd ⟨h0, h48, h⟩ hn.2.1
    · exact h
end Go.Proofs.YteffobcelgbiiaaDoor
