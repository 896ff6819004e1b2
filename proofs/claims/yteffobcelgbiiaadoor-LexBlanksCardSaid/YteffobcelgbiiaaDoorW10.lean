/- Layer 1, walks: word.Quote. -/
import Derived.Test.YteffobcelgbiiaaDoorW9
import Derived.Lib.ConvBytes
namespace Go.Proofs.YteffobcelgbiiaaDoor
open Go.RowKit

/-- the builder's state within a call that began in w: block b holds l; block r (O) stands beside it -/
def BI (w : World) (b : Nat) (r : Option (Nat × Obj)) (l : List UInt8) (wr : World) : Prop :=
  ∃ own, Bld b own l wr ∧ (∀ g, own = some g → w.heap.size ≤ g) ∧ w.heap.size ≤ b ∧ Fr [] w wr ∧ ∀ k o, r = some (k, o) → wr.heap[k]? = some o ∧ k ≠ b ∧ own ≠ some k

theorem BI.start (w : World) : BI w w.heap.size none [] (w.alloc (.cells #[.pointer none, .slice none 0 0] 60)) :=
  ⟨none, Bld.fresh w, (fun _ h => by cases h), Nat.le_refl _, (Fr.refl _ _).alloc _, (fun _ _ h => by cases h)⟩
/-- a block laid beside it -/
theorem BI.beside {w : World} {b : Nat} {l : List UInt8} {wr w' : World} (h : BI w b none l wr) (hf : Fr [] wr w') {k : Nat} {o : Obj} (hk : wr.heap.size ≤ k) (ho : w'.heap[k]? = some o) : BI w b (some (k, o)) l w' := by
  obtain ⟨own, hb, hg, hbw, hfr, _⟩ := h
  refine ⟨own, hb.keep hf (fun h => by cases h) (fun _ _ h => by cases h), hg, hbw, hfr.trans hf, ?_⟩
  intro k' o' e
  cases e
  have := hb.lt
  exact ⟨ho, by omega, fun e => by have := hb.own_lt k e; omega⟩
theorem BI.at {w : World} {b k : Nat} {o : Obj} {l : List UInt8} {wr : World} (h : BI w b (some (k, o)) l wr) : wr.heap[k]? = some o := by
  obtain ⟨own, _, _, _, _, hr⟩ := h
  exact (hr k o rfl).1
theorem BI.frame {w : World} {b : Nat} {r : Option (Nat × Obj)} {l : List UInt8} {wr : World} (h : BI w b r l wr) : Fr [] w wr := by
  obtain ⟨own, _, _, _, hf, _⟩ := h
  exact hf
theorem BI.fr {w : World} {b : Nat} {r : Option (Nat × Obj)} {l : List UInt8} {wr w' : World} (h : BI w b r l wr) (hf : Fr [] wr w') : BI w b r l w' := by
  obtain ⟨own, hb, hg, hbw, hfr, hr⟩ := h
  refine ⟨own, hb.keep hf (fun h => by cases h) (fun _ _ h => by cases h), hg, hbw, hfr.trans hf, fun k o e => ?_⟩
  obtain ⟨h1, h2⟩ := hr k o e
  exact ⟨hf.keep h1 (fun h => by cases h), h2⟩
theorem BI.wrote {w : World} {b : Nat} {r : Option (Nat × Obj)} {l m : List UInt8} {wr w' : World} {own : Option Nat} (_hb : Bld b own l wr) (hg : ∀ g, own = some g → w.heap.size ≤ g) (hbw : w.heap.size ≤ b) (hfr : Fr [] w wr)
    (hr : ∀ k o, r = some (k, o) → wr.heap[k]? = some o ∧ k ≠ b ∧ own ≠ some k) (hw : Wrote b own m wr w') : BI w b r m w' := by
  obtain ⟨⟨own', hb', hfp⟩, hf⟩ := hw
  refine ⟨own', hb', ?_, hbw, hfr.step hf ?_, ?_⟩
  · intro g e
    rcases hfp g e with h | h
    · exact hg g h
    · have := hfr.size; omega
  · intro x hx
    simp only [List.mem_cons, Option.mem_toList] at hx
    rcases hx with rfl | hx
    · exact .inr hbw
    · exact .inr (hg x hx)
  · intro k o e
    obtain ⟨h1, h2, h3⟩ := hr k o e
    refine ⟨hf.keep h1 ?_, h2, ?_⟩
    · intro hx
      simp only [List.mem_cons, Option.mem_toList] at hx
      rcases hx with hx | hx
      · exact h2 hx
      · exact h3 hx
    · intro e'
      rcases hfp k e' with h | h
      · exact h3 h
      · have := lt_of_heap h1; omega

theorem BI_byte (c : Int) (w : World) (b : Nat) (r : Option (Nat × Obj)) (l : List UInt8) (wr : World) (c0 : 0 ≤ c) (c1 : c ≤ 255) (h : BI w b r l wr) (hlen : l.length + 1 ≤ 140737488355328) :
    Calls Tryd.prog 39 #[.pointer (some ⟨b, 0, none⟩), .int .u8 c] wr fun e w' => e = .returned .nilIface ∧ BI w b r (l ++ [UInt8.ofNat c.toNat]) w' := by
  obtain ⟨own, hb, hg, hbw, hfr, hr⟩ := h
  exact (WriteByte_any b own l c c0 c1 wr hb hlen).mono fun _ _ ⟨he, hw⟩ => ⟨he, BI.wrote hb hg hbw hfr hr hw⟩
theorem BI_text (s : ByteArray) (w : World) (b : Nat) (r : Option (Nat × Obj)) (l : List UInt8) (wr : World) (h : BI w b r l wr) (hlen : l.length + s.size ≤ 140737488355328) :
    Calls Tryd.prog 59 #[.pointer (some ⟨b, 0, none⟩), .string s] wr fun e w' => e = .returned (.tuple #[.int .i64 s.size, .nilIface]) ∧ BI w b r (l ++ s.data.toList) w' := by
  obtain ⟨own, hb, hg, hbw, hfr, hr⟩ := h
  exact (WriteString_any b own l s wr hb hlen).mono fun _ _ ⟨he, hw⟩ => ⟨he, BI.wrote hb hg hbw hfr hr hw⟩
theorem BI_string (w : World) (b : Nat) (r : Option (Nat × Obj)) (l : List UInt8) (wr : World) (h : BI w b r l wr) :
    Calls Tryd.prog 41 #[.pointer (some ⟨b, 0, none⟩)] wr fun e w' => e = .returned (.string ⟨l.toArray⟩) ∧ Fr [] w w' := by
  obtain ⟨own, hb, hg, hbw, hfr, hr⟩ := h
  exact (String_any w.heap.size b own l wr hb hbw hg).mono fun _ _ ⟨he, hw⟩ => ⟨he, ⟨hw.os.trans hfr.os, hw.tape.trans hfr.tape, hw.output.trans hfr.output, Nat.le_trans hfr.size hw.size, fun k hk _ => (hw.block k hk).trans (hfr.block k hk (fun h => by cases h))⟩⟩

theorem shr4 (c : Nat) : ((c : Nat) : Int) / 16 = ((c / 16 : Nat) : Int) := by omega
theorem and15 (c : UInt8) : bits .and .u8 ((c.toNat : Nat) : Int) 15 = ((c.toNat % 16 : Nat) : Int) := by
  have h := c.toNat_lt
  rw [show (15 : Int) = ((15 : Nat) : Int) from rfl, u8_and_nat c.toNat 15 (by omega) (by omega)]
  have : c.toNat &&& 15 = c.toNat % 16 := Nat.and_two_pow_sub_one_eq_mod c.toNat 4
  rw [this]

set_option maxHeartbeats 1000000 in
set_option maxRecDepth 100000 in
theorem Quote_any (s : ByteArray) (hs : s.size ≤ 16777216) (w : World) :
    Calls Tryd.prog 42 #[.string s] w fun e w' => e = .returned (.string ⟨(quoteL s.data.toList).toArray⟩) ∧ Fr [] w w' := by
  have hcv := fun W => Lib.run_convert_string_bytes (P := Tryd.prog) W 9 32 5 s Tryd.underlying9 Tryd.underlying32 Tryd.underlying5
  go_enter Tryd.func42, Tryd.ntmps42
  go_wp2_with fail
  refine (BI_byte 34 w w.heap.size none [] _ (by decide) (by decide) (BI.start w) (by decide)).mono ?_
  rintro e w1 ⟨rfl, h1⟩
  go_wp2_with fail
  have h2 : BI w w.heap.size (some (w1.heap.size, .cells (Lib.bytesCells w1 5 s) 5 ((Lib.bytesCells w1 5 s).size, (Lib.bytesCells w1 5 s).size + 1))) [34] (Lib.bytesWorld w1 5 s) :=
    h1.beside (Fr.of_below (Lib.bytesWorld_below _ _ _)) (Nat.le_refl _) (Lib.bytesWorld_at_new w1 5 s)
  have hcell : ∀ W : World, W.heap[w1.heap.size]? = some (.cells (Lib.bytesCells w1 5 s) 5 ((Lib.bytesCells w1 5 s).size, (Lib.bytesCells w1 5 s).size + 1)) → ∀ k (hk : k < s.size), W.cell? ⟨w1.heap.size, k, none⟩ = some (.int .u8 ((s[k].toNat : Nat) : Int)) := by
    intro W hW k hk
    have h3 := Lib.bytesWorld_cell w1 5 s k hk
    rw [cell_of (Lib.bytesWorld_at_new w1 5 s)] at h3
    rw [cell_of hW, h3, List.getD_eq_getElem?_getD, List.getElem?_eq_getElem (by simpa using hk)]
    rfl
  have HC := Lib.hid hcell
  clear hcell h1 hcv
  generalize Obj.cells (Lib.bytesCells w1 5 s) 5 ((Lib.bytesCells w1 5 s).size, (Lib.bytesCells w1 5 s).size + 1) = O at *
  generalize Lib.bytesWorld w1 5 s = w2 at *
  generalize w1.heap.size = R at *
  generalize w.heap.size = b at *
  go_loopw [10] (fun i wr => ∃ k : Nat, k ≤ s.size ∧ i = .int .i64 k ∧ BI w b (some (R, O)) (34 :: quotes (s.data.toList.take k)) wr) (fun i _ => s.size - (intOf i).toNat)
  case atStart => exact ⟨0, Nat.zero_le _, rfl, h2⟩
  case round =>
    obtain ⟨k, hk, rfl, hb⟩ := hrel
    clear h2
    have hql := quotes_take_len s k hk
    by_cases hlt : k < s.size
    · have hq1 := quotes_take s k hlt
      rw [quo_str] at hq1
      have hcell := HC.out wr hb.at k hlt
      have cl := s[k].toNat_lt
      have c0 : 0 ≤ ((s[k].toNat : Nat) : Int) := by omega
      have c1 : ((s[k].toNat : Nat) : Int) ≤ 255 := by omega
      have hbk : UInt8.ofNat s[k].toNat = s[k] := UInt8.ofNat_toNat
      have HB := Lib.hid hbk
      by_cases e1 : ((s[k].toNat : Nat) : Int) = 34
      · rw [if_pos e1] at hq1
        have HQ := Lib.hid hq1
        have HE : Hid (s[k] = 34) := Lib.hid (UInt8.toNat_inj.1 (by have h9 : (34 : UInt8).toNat = 34 := rfl; omega))
        have b1 : (((s[k].toNat : Nat) : Int) == 34) = true := by simpa using e1
        clear hq1 e1 hbk cl
        go_wp2_with fail
        refine (BI_byte 92 _ _ _ _ _ (by omega) (by omega) hb (by simp only [List.length_cons]; omega)).mono ?_
        rintro e x1 ⟨rfl, hb1⟩
        go_wp2_with fail
        refine (BI_byte _ _ _ _ _ _ (by omega) (by omega) hb1 (by simp only [List.length_append, List.length_cons, List.length_nil]; omega)).mono ?_
        rintro e x2 ⟨rfl, hb2⟩
        go_wp2_with fail
        go_roundw
        case rel => exact ⟨k + 1, by omega, by go_num, by rw [HQ.out]; simpa [HE.out] using hb2⟩
        case measure => simp [intOf]; omega
      · rw [if_neg e1] at hq1
        have b1 : (((s[k].toNat : Nat) : Int) == 34) = false := by simpa using e1
        clear e1
        by_cases e2 : ((s[k].toNat : Nat) : Int) = 92
        · rw [if_pos e2] at hq1
          have HQ := Lib.hid hq1
          have HE : Hid (s[k] = 92) := Lib.hid (UInt8.toNat_inj.1 (by have h9 : (92 : UInt8).toNat = 92 := rfl; omega))
          have b2 : (((s[k].toNat : Nat) : Int) == 92) = true := by simpa using e2
          clear hq1 e2 hbk cl
          go_wp2_with fail
          refine (BI_byte 92 _ _ _ _ _ (by omega) (by omega) hb (by simp only [List.length_cons]; omega)).mono ?_
          rintro e x1 ⟨rfl, hb1⟩
          go_wp2_with fail
          refine (BI_byte _ _ _ _ _ _ (by omega) (by omega) hb1 (by simp only [List.length_append, List.length_cons, List.length_nil]; omega)).mono ?_
          rintro e x2 ⟨rfl, hb2⟩
          go_wp2_with fail
          go_roundw
          case rel => exact ⟨k + 1, by omega, by go_num, by rw [HQ.out]; simpa [HE.out] using hb2⟩
          case measure => simp [intOf]; omega
        · rw [if_neg e2] at hq1
          have b2 : (((s[k].toNat : Nat) : Int) == 92) = false := by simpa using e2
          clear e2
          by_cases e3 : ((s[k].toNat : Nat) : Int) = 10
          · rw [if_pos e3] at hq1
            have HQ := Lib.hid hq1
            have b3 : (((s[k].toNat : Nat) : Int) == 10) = true := by simpa using e3
            clear hq1 e3 hbk cl
            go_wp2_with fail
            refine (BI_text _ _ _ _ _ _ hb (by simp only [List.length_cons, List.length_nil, ByteArray.size_mk', List.size_toArray]; omega)).mono ?_
            rintro e x1 ⟨rfl, hb1⟩
            go_wp2_with fail
            go_roundw
            case rel => exact ⟨k + 1, by omega, by go_num, by rw [HQ.out]; simpa using hb1⟩
            case measure => simp [intOf]; omega
          · rw [if_neg e3] at hq1
            have b3 : (((s[k].toNat : Nat) : Int) == 10) = false := by simpa using e3
            clear e3
            by_cases e4 : 32 ≤ ((s[k].toNat : Nat) : Int) ∧ ((s[k].toNat : Nat) : Int) ≤ 126
            · rw [if_pos e4] at hq1
              have HQ := Lib.hid hq1
              have b4 : decide (32 ≤ ((s[k].toNat : Nat) : Int)) = true := decide_eq_true e4.1
              have b5 : decide (((s[k].toNat : Nat) : Int) ≤ 126) = true := decide_eq_true e4.2
              clear hq1 e4 hbk cl
              go_wp2_with fail
              refine (BI_byte _ _ _ _ _ _ (by omega) (by omega) hb (by simp only [List.length_cons]; omega)).mono ?_
              rintro e x1 ⟨rfl, hb1⟩
              go_wp2_with fail
              go_roundw
              case rel => exact ⟨k + 1, by omega, by go_num, by rw [HQ.out]; simpa using hb1⟩
              case measure => simp [intOf]; omega
            · rw [if_neg e4] at hq1
              have HQ := Lib.hid hq1
              have key : decide (32 ≤ ((s[k].toNat : Nat) : Int)) = false ∨ (decide (32 ≤ ((s[k].toNat : Nat) : Int)) = true ∧ decide (((s[k].toNat : Nat) : Int) ≤ 126) = false) := by
                by_cases h5 : 32 ≤ ((s[k].toNat : Nat) : Int)
                · exact .inr ⟨decide_eq_true h5, decide_eq_false (fun h => e4 ⟨h5, h⟩)⟩
                · exact .inl (decide_eq_false h5)
              have i1 := fun W => run_index_hex (P := Tryd.prog) Tryd.underlying9 .u8 (((s[k].toNat : Nat) : Int) / 16) (s[k].toNat / 16) (by omega) (by omega) W
              have i2 := fun W => run_index_hex (P := Tryd.prog) Tryd.underlying9 .u8 (bits .and .u8 ((s[k].toNat : Nat) : Int) 15) (s[k].toNat % 16) (and15 _) (by omega) W
              have i3 := fun W => run_index_hex (P := Tryd.prog) Tryd.underlying9 .u8 (((s[k].toNat : Nat) : Int) % 16) (s[k].toNat % 16) (by omega) (by omega) W
              have i4 := fun W => run_index_hex (P := Tryd.prog) Tryd.underlying9 .u8 (((s[k].toNat % 16 : Nat) : Int)) (s[k].toNat % 16) rfl (by omega) W
              have u1 := (hexD (s[k].toNat / 16)).toNat_lt
              have u2 := (hexD (s[k].toNat % 16)).toNat_lt
              clear hq1 e4 hbk cl
              rcases key with b4 | ⟨b4, b5⟩
              all_goals
                go_wp2_with fail
                refine (BI_text _ _ _ _ _ _ hb (by simp only [List.length_cons, List.length_nil, ByteArray.size_mk', List.size_toArray]; omega)).mono ?_
                rintro e x1 ⟨rfl, hb1⟩
                go_wp2_with fail
                refine (BI_byte _ _ _ _ _ _ (by omega) (by omega) hb1 (by simp only [List.length_append, List.length_cons, List.length_nil]; omega)).mono ?_
                rintro e x2 ⟨rfl, hb2⟩
                go_wp2_with fail
                refine (BI_byte _ _ _ _ _ _ (by omega) (by omega) hb2 (by simp only [List.length_append, List.length_cons, List.length_nil]; omega)).mono ?_
                rintro e x3 ⟨rfl, hb3⟩
                go_wp2_with fail
                go_roundw
                case rel => exact ⟨k + 1, by omega, by go_num, by rw [HQ.out]; simpa using hb3⟩
                case measure => simp [intOf]; omega
    · have hts : s.data.toList.take k = s.data.toList := List.take_of_length_le (by rw [size_list]; omega)
      rw [hts] at hb hql
      go_wp2_with fail
      refine (BI_byte 34 _ _ _ _ _ (by omega) (by omega) hb (by simp only [List.length_cons]; omega)).mono ?_
      rintro e x1 ⟨rfl, hb1⟩
      go_wp2_with fail
      refine (BI_string _ _ _ _ _ hb1).mono ?_
      rintro e x2 ⟨rfl, hf⟩
      go_wp2_with fail
      go_ret
      exact ⟨rfl, hf⟩
end Go.Proofs.YteffobcelgbiiaaDoor
