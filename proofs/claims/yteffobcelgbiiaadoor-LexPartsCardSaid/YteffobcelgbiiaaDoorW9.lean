/- Layer 1, walks: quoting. -/
import Derived.Test.YteffobcelgbiiaaDoorW4
import Derived.Test.YteffobcelgbiiaaDoorW8
namespace Go.Proofs.YteffobcelgbiiaaDoor
open Go.RowKit

theorem quo_str (c : UInt8) : quo c = if ((c.toNat : Nat) : Int) = 34 then [92, 34] else if ((c.toNat : Nat) : Int) = 92 then [92, 92] else if ((c.toNat : Nat) : Int) = 10 then [92, 110]
    else if 32 ≤ ((c.toNat : Nat) : Int) ∧ ((c.toNat : Nat) : Int) ≤ 126 then [c] else [92, 120, hexD (c.toNat / 16), hexD (c.toNat % 16)] := by
  have e : ∀ k : UInt8, (c = k) ↔ ((c.toNat : Nat) : Int) = ((k.toNat : Nat) : Int) := fun k => ⟨fun h => by rw [h], fun h => UInt8.toNat_inj.1 (by omega)⟩
  have e1 := e 34; have e2 := e 92; have e3 := e 10
  have n1 : (((34 : UInt8).toNat : Nat) : Int) = 34 := rfl
  have n2 : (((92 : UInt8).toNat : Nat) : Int) = 92 := rfl
  have n3 : (((10 : UInt8).toNat : Nat) : Int) = 10 := rfl
  rw [n1] at e1; rw [n2] at e2; rw [n3] at e3
  unfold quo
  simp only [e1, e2, e3]
  have e4 : (32 ≤ c.toNat ∧ c.toNat ≤ 126) ↔ (32 ≤ ((c.toNat : Nat) : Int) ∧ ((c.toNat : Nat) : Int) ≤ 126) := by omega
  simp only [e4]

theorem hex_at (k : Nat) (h : k < 16) : hexB[k]? = some (hexD k) := by
  unfold hexD
  rw [List.getD_eq_getElem?_getD]
  have : k < hexB.length := h
  rw [List.getElem?_eq_getElem this]
  rfl

theorem run_index_at {P : Program} {T : TypeId} (hT : P.underlying T = some .string) (s : ByteArray) (K : IntKind) (i : Int) (k : Nat) (hi : i = k) (b : UInt8) (hb : s.data.toList[k]? = some b) (W : World) :
    (Instr.index T (.string s) (.int K i)).run P W = .ok (.int .u8 (b.toNat : Int)) W := by
  subst hi
  have h0 : s[k]? = some b := by
    have hk : k < s.data.toList.length := (List.getElem?_eq_some_iff.1 hb).1
    have hk' : k < s.size := by rw [size_list] at hk; exact hk
    rw [getElem?_pos s k hk']
    have := (List.getElem?_eq_some_iff.1 hb).2
    rw [← this]; rfl
  simp [Instr.index, run_underlying hT, asIntOf, h0]
theorem run_index_hex {P : Program} {T : TypeId} (hT : P.underlying T = some .string) (K : IntKind) (i : Int) (k : Nat) (hi : i = k) (hk : k < 16) (W : World) :
    (Instr.index T (.string ⟨#[48, 49, 50, 51, 52, 53, 54, 55, 56, 57, 97, 98, 99, 100, 101, 102]⟩) (.int K i)).run P W = .ok (.int .u8 ((hexD k).toNat : Int)) W :=
  run_index_at hT _ K i k hi (hexD k) (hex_at k hk) W

theorem run_bytes_two_drew {P : Program} {src dst e : TypeId} (hs : P.underlying src = some (.slice e)) (he : P.underlying e = some (.int .u8)) (hd : P.underlying dst = some .string) (w : World) (x y : UInt8) (t : TypeId) :
    (convert src dst (.slice (some ⟨w.heap.size, 0, none⟩) 2 2)).run P (w.alloc (.cells #[.int .u8 (x.toNat : Int), .int .u8 (y.toNat : Int)] t)).drew = .ok (.string ⟨[x, y].toArray⟩) (w.alloc (.cells #[.int .u8 (x.toNat : Int), .int .u8 (y.toNat : Int)] t)).drew := by
  have h := run_bytes_two hs he hd w.drew (x.toNat : Int) (y.toNat : Int) t
  simp only [Int.toNat_natCast, UInt8.ofNat_toNat] at h
  exact h

set_option maxHeartbeats 1000000 in
set_option maxRecDepth 100000 in
theorem Rone_any (c : UInt8) (w : World) :
    Calls Tryd.prog 35 #[.int .u8 (c.toNat : Int)] w fun e w' => e = .returned (.string ⟨(quo c).toArray⟩) ∧ Fr [] w w' := by
  rw [quo_str c]
  have c0 : 0 ≤ ((c.toNat : Nat) : Int) := by omega
  have c1 : ((c.toNat : Nat) : Int) ≤ 255 := by have := c.toNat_lt; omega
  by_cases h1 : ((c.toNat : Nat) : Int) = 34
  · rw [if_pos h1]
    have b1 : (((c.toNat : Nat) : Int) == 34) = true := by simpa using h1
    clear h1
    go_enter Tryd.func35, Tryd.ntmps35
    go_wp2_with fail
    go_ret
    exact ⟨rfl, Fr.refl _ _⟩
  · rw [if_neg h1]
    have b1 : (((c.toNat : Nat) : Int) == 34) = false := by simpa using h1
    clear h1
    by_cases h2 : ((c.toNat : Nat) : Int) = 92
    · rw [if_pos h2]
      have b2 : (((c.toNat : Nat) : Int) == 92) = true := by simpa using h2
      clear h2
      go_enter Tryd.func35, Tryd.ntmps35
      go_wp2_with fail
      go_ret
      exact ⟨rfl, Fr.refl _ _⟩
    · rw [if_neg h2]
      have b2 : (((c.toNat : Nat) : Int) == 92) = false := by simpa using h2
      clear h2
      by_cases h3 : ((c.toNat : Nat) : Int) = 10
      · rw [if_pos h3]
        have b3 : (((c.toNat : Nat) : Int) == 10) = true := by simpa using h3
        clear h3
        go_enter Tryd.func35, Tryd.ntmps35
        go_wp2_with fail
        go_ret
        exact ⟨rfl, Fr.refl _ _⟩
      · rw [if_neg h3]
        have b3 : (((c.toNat : Nat) : Int) == 10) = false := by simpa using h3
        clear h3
        by_cases h4 : 32 ≤ ((c.toNat : Nat) : Int) ∧ ((c.toNat : Nat) : Int) ≤ 126
        · rw [if_pos h4]
          have b4 : decide (32 ≤ ((c.toNat : Nat) : Int)) = true := decide_eq_true h4.1
          have b5 : decide (((c.toNat : Nat) : Int) ≤ 126) = true := decide_eq_true h4.2
          have hc := run_bytes_one Tryd.underlying32 Tryd.underlying5 Tryd.underlying9 w ((c.toNat : Nat) : Int) 5
          simp only [Int.toNat_natCast, UInt8.ofNat_toNat] at hc
          clear h4
          go_enter Tryd.func35, Tryd.ntmps35
          go_wp2_with fail
          go_ret
          exact ⟨rfl, (Fr.refl _ _).alloc _⟩
        · rw [if_neg h4]
          have key : decide (32 ≤ ((c.toNat : Nat) : Int)) = false ∨ (decide (32 ≤ ((c.toNat : Nat) : Int)) = true ∧ decide (((c.toNat : Nat) : Int) ≤ 126) = false) := by
            by_cases h5 : 32 ≤ ((c.toNat : Nat) : Int)
            · exact .inr ⟨decide_eq_true h5, decide_eq_false (fun h => h4 ⟨h5, h⟩)⟩
            · exact .inl (decide_eq_false h5)
          clear h4
          have cl := c.toNat_lt
          have i1 := fun W => run_index_hex (P := Tryd.prog) Tryd.underlying9 .u8 (((c.toNat : Nat) : Int) / 16) (c.toNat / 16) (by omega) (by omega) W
          have i2 := fun W => run_index_hex (P := Tryd.prog) Tryd.underlying9 .u8 (((c.toNat : Nat) : Int) % 16) (c.toNat % 16) (by omega) (by omega) W
          have hc := run_bytes_two_drew Tryd.underlying32 Tryd.underlying5 Tryd.underlying9 w (hexD (c.toNat / 16)) (hexD (c.toNat % 16)) 5
          clear cl
          rcases key with b4 | ⟨b4, b5⟩
          all_goals
            go_enter Tryd.func35, Tryd.ntmps35
            go_wp2_with fail
            go_region
            all_goals
              go_wp2_with fail
              go_ret
              exact ⟨by simp [ByteArray.mk_append_mk], ((Fr.refl _ _).alloc _).drew⟩

/-! ### Quote, the reference's -/
theorem quotes_snoc (l : List UInt8) (c : UInt8) : quotes (l ++ [c]) = quotes l ++ quo c := by simp [quotes]
theorem quotes_take (s : ByteArray) (k : Nat) (h : k < s.size) : quotes (s.data.toList.take (k + 1)) = quotes (s.data.toList.take k) ++ quo s[k] := by rw [take_snoc s k h, quotes_snoc]
theorem quotes_take_len (s : ByteArray) (k : Nat) (h : k ≤ s.size) : (quotes (s.data.toList.take k)).length ≤ 4 * s.size := by
  have h1 := quotes_len (s.data.toList.take k)
  have h2 := List.length_take_le k s.data.toList
  omega
/-- what a slice of bytes that the call owns holds, and where it lies: not below B -/
def OwnB (B : Nat) (v : Value) (l : List UInt8) (w : World) : Prop := w.ownsRow 0 5 1 v l.length (Lib.byteCells l) ∧ ∀ g, v.ownBlock = some g → B ≤ g
theorem OwnB.fr {B : Nat} {v : Value} {l : List UInt8} {w w' : World} (h : OwnB B v l w) (hf : Fr [] w w') : OwnB B v l w' := ⟨ownsRow_fr h.1 hf (fun _ _ h => by cases h), h.2⟩
theorem OwnB.lit (w : World) (c : UInt8) : OwnB w.heap.size (.slice (some ⟨w.heap.size, 0, none⟩) 1 1) [c] (w.alloc (.cells #[.int .u8 (c.toNat : Int)] 5)) :=
  ⟨World.ownsRow_lit w #[.int .u8 (c.toNat : Int)] 1 (Nat.zero_le _) (by decide) rfl, fun g hg => by simp [Value.ownBlock] at hg; omega⟩

set_option maxHeartbeats 1000000 in
set_option maxRecDepth 100000 in
theorem RQuote_any (s : ByteArray) (hs : s.size ≤ 16777216) (w : World) :
    Calls Tryd.prog 18 #[.string s] w fun e w' => e = .returned (.string ⟨(quoteL s.data.toList).toArray⟩) ∧ Fr [] w w' := by
  obtain ⟨i0, hi, hz0, hz1, hz2⟩ := info_parts infoByte
  have h34 := OwnB.lit w 34
  go_enter Tryd.func18, Tryd.ntmps18
  go_wp2_with fail
  go_loopw [3, 4] (fun v i wr => ∃ k : Nat, k ≤ s.size ∧ i = .int .i64 k ∧ OwnB w.heap.size v (34 :: quotes (s.data.toList.take k)) wr ∧ Fr [] w wr) (fun _ i _ => s.size - (intOf i).toNat)
  case atStart => exact ⟨0, Nat.zero_le _, rfl, h34, (Fr.refl _ _).alloc _⟩
  case round =>
    obtain ⟨k, hk, rfl, ⟨hown, hog⟩, hf⟩ := hrel
    clear h34
    have hql := quotes_take_len s k hk
    by_cases hlt : k < s.size
    · have hq1 := Lib.hid (quotes_take s k hlt)
      have hqc := (quo_len s[k]).2
      go_wp2_with fail
      refine (Rone_any s[k] _).mono ?_
      rintro e w1 ⟨rfl, hf1⟩
      have hown1 := ownsRow_fr hown hf1 (fun _ _ h => by cases h)
      go_wp2_with (at_builtin; refine wpList_append_fp_string _ rfl _ _ 32 9 rfl 5 i0 Tryd.underlying32 Tryd.underlying9 hi hz0 hz1 hz2 _ _ _ rfl hown1 ⟨(quo s[k]).toArray⟩ rfl ?c3 ?c4 ?_)
      case c3 => unfold maxLen; simp only [List.length_cons, ByteArray.size_mk', List.size_toArray]; omega
      case c4 => simp only [List.length_cons, ByteArray.size_mk', List.size_toArray]; omega
      intro v' w2 hown2 hgrow hfp
      go_wp2_with fail
      go_roundw
      case rel =>
        refine ⟨k + 1, by omega, by go_num, ⟨?_, ?_⟩, ?_⟩
        · rw [hq1.out]
          have e1 : (34 :: (quotes (s.data.toList.take k) ++ quo s[k])) = (34 :: quotes (s.data.toList.take k)) ++ quo s[k] := rfl
          rw [e1, List.length_append, Lib.byteCells_append]
          have e2 : Lib.strCells ⟨(quo s[k]).toArray⟩ = Lib.byteCells (quo s[k]) := strCells_list _
          rw [← e2]
          exact hown2
        · intro g hg
          rcases hfp g hg with h | h
          · exact hog g h
          · have := hf.size; have := hf1.size; omega
        · exact (hf.trans hf1).append hgrow (fun g hg => .inr (hog g hg))
      case measure => simp [intOf]; omega
    · have hts : s.data.toList.take k = s.data.toList := List.take_of_length_le (by rw [size_list]; omega)
      have HT := Lib.hid hts
      clear hts
      go_wp2_with (at_builtin; refine wpList_append_fp _ rfl _ _ 32 rfl 5 i0 (.int .u8 0) 1 1 Tryd.underlying32 hi hz0 hz1 hz2 rfl (by decide) _ _ _ rfl (hown.alloc _) ⟨wr.heap.size, 0, none⟩ 1 1 [.int .u8 34] rfl rfl ?c1 ?c2 ?c3 ?c4 ?_)
      case c1 =>
        intro j u hj
        match j, hj with
        | 0, hj => simp at hj; subst hj; simp [Addr.add]
      case c2 => intro u hu; simp at hu; subst hu; rfl
      case c3 => unfold maxLen; simp only [List.length_cons]; omega
      case c4 => simp only [List.length_cons]; omega
      intro v' w2 hown2 hgrow hfp
      have hl : (quotes (s.data.toList.take k)).length + 1 + 1 = (quoteL s.data.toList).length := by rw [HT.out]; simp [quoteL]
      have hc : Lib.byteCells (34 :: quotes (s.data.toList.take k)) ++ [.int .u8 34] = Lib.byteCells (quoteL s.data.toList) := by rw [HT.out]; simp [quoteL, Lib.byteCells]
      rw [hl, hc] at hown2
      clear hl hc
      have hconv := run_bytes_own Tryd.underlying32 Tryd.underlying5 Tryd.underlying9 w2 _ v' _ hown2
      go_wp2_with fail
      go_ret
      exact ⟨rfl, (hf.alloc _).append hgrow (fun g hg => .inr (hog g hg))⟩
end Go.Proofs.YteffobcelgbiiaaDoor
