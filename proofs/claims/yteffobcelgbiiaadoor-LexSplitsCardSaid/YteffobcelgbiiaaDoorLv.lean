/- Layer 5, walks: reading tokens; whether two lists are the same; a token's text. -/
import Derived.Test.YteffobcelgbiiaaDoorLy
import Derived.Deep.AppendLies
namespace Go.Proofs.YteffobcelgbiiaaDoor
open Go.RowKit

/-- a slice that reads as these tokens -/
structure RT (g : Nat) (ts : List Tok) (w : World) : Prop where
  c0 : ∀ (k : Nat) (t : Tok), ts[k]? = some t → w.cell? ⟨g, k * 4, none⟩ = some (.int .i64 t.k)
  c1 : ∀ (k : Nat) (t : Tok), ts[k]? = some t → w.cell? ⟨g, k * 4 + 1, none⟩ = some (.int .i64 t.at')
  c2 : ∀ (k : Nat) (t : Tok), ts[k]? = some t → w.cell? ⟨g, k * 4 + 2, none⟩ = some (.string ⟨t.text.toArray⟩)
  c3 : ∀ (k : Nat) (t : Tok), ts[k]? = some t → w.cell? ⟨g, k * 4 + 3, none⟩ = some (.int .i64 t.n)
theorem toksC_at : ∀ (ts : List Tok) (k j : Nat) (t : Tok), ts[k]? = some t → j < 4 → (toksC ts)[k * 4 + j]? = (tokCells t)[j]?
  | [], k, j, t, h, _ => by simp at h
  | u :: ts, 0, j, t, h, hj => by
    simp at h; subst h
    have e : toksC (u :: ts) = tokCells u ++ toksC ts := rfl
    rw [e, Nat.zero_mul, Nat.zero_add, List.getElem?_append_left (by simp [tokCells]; omega)]
  | u :: ts, k + 1, j, t, h, hj => by
    have e : toksC (u :: ts) = tokCells u ++ toksC ts := rfl
    have h' : ts[k]? = some t := by simpa using h
    have hl : (tokCells u).length = 4 := rfl
    rw [e, List.getElem?_append_right (by rw [hl]; omega), hl, ← toksC_at ts k j t h' hj]
    congr 1
    omega
theorem form_ownT {B : Nat} {v : Value} {ts : List Tok} {w : World} (h : OwnT B v ts w) (hne : ts ≠ []) : ∃ g c, v = .slice (some ⟨g, 0, none⟩) ts.length c ∧ B ≤ g ∧ g < w.heap.size ∧ RT g ts w := by
  have hl : 0 < ts.length := List.length_pos_iff.2 hne
  obtain ⟨g, cap, hv, _, hlt⟩ := World.ownsRow.form h.1 hl
  subst hv
  have hc := fun (k j : Nat) (t : Tok) (hk : ts[k]? = some t) (hj : j < 4) => (World.ownsRow.cellAt h.1 (k * 4 + j) (by have := (List.getElem?_eq_some_iff.1 hk).1; omega)).trans (toksC_at ts k j t hk hj)
  exact ⟨g, cap, rfl, h.2 g rfl, hlt, ⟨fun k t hk => hc k 0 t hk (by omega), fun k t hk => hc k 1 t hk (by omega), fun k t hk => hc k 2 t hk (by omega), fun k t hk => hc k 3 t hk (by omega)⟩⟩
theorem RT.fr {g : Nat} {ts : List Tok} {w w' : World} (h : RT g ts w) (hf : Fr [] w w') (hg : g < w.heap.size) : RT g ts w' :=
  ⟨fun k t hk => (hf.cell (p := ⟨g, k * 4, none⟩) hg (fun x => by cases x)).trans (h.c0 k t hk), fun k t hk => (hf.cell (p := ⟨g, k * 4 + 1, none⟩) hg (fun x => by cases x)).trans (h.c1 k t hk), fun k t hk => (hf.cell (p := ⟨g, k * 4 + 2, none⟩) hg (fun x => by cases x)).trans (h.c2 k t hk), fun k t hk => (hf.cell (p := ⟨g, k * 4 + 3, none⟩) hg (fun x => by cases x)).trans (h.c3 k t hk)⟩

set_option maxHeartbeats 1000000 in
set_option maxRecDepth 100000 in
theorem same_any (g1 g2 : Nat) (ts : List Tok) (c1 c2 : Nat) (hl : ts.length ≤ 1000000) (w : World) (h1 : RT g1 ts w) (h2 : RT g2 ts w) :
    Calls Tryd.prog 11 #[.slice (some ⟨g1, 0, none⟩) ts.length c1, .slice (some ⟨g2, 0, none⟩) ts.length c2] w fun e w' => e = .returned (.bool true) ∧ Fr [] w w' := by
  go_enter Tryd.func11, Tryd.ntmps11
  go_wp2_with fail
  go_loopw [13] (fun i wr => ∃ k : Nat, i = .int .i64 k ∧ k ≤ ts.length ∧ ∃ n, wr = w.drewN n) (fun i _ => ts.length - (intOf i).toNat)
  case atStart => exact ⟨0, rfl, by omega, 0, rfl⟩
  case round =>
    obtain ⟨k, rfl, hk, nd, rfl⟩ := hrel
    by_cases hlt : k < ts.length
    · have ht : ts[k]? = some ts[k] := List.getElem?_eq_getElem hlt
      have a0 := h1.c0 k _ ht
      have a1 := h1.c1 k _ ht
      have a2 := h1.c2 k _ ht
      have a3 := h1.c3 k _ ht
      have b0 := h2.c0 k _ ht
      have b1 := h2.c1 k _ ht
      have b2 := h2.c2 k _ ht
      have b3 := h2.c3 k _ ht
      clear ht
      generalize ts[k] = t at *
      obtain ⟨tk, ta, tt, tn⟩ := t
      simp only at a0 a1 a2 a3 b0 b1 b2 b3
      go_wp2_with fail
      go_quiet (fail)
      go_wp2_with fail
      go_roundw
      case rel => exact ⟨k + 1, by go_num, by omega, _, rfl⟩
      case measure => simp [intOf]; omega
    · go_wp2_with fail
      go_ret
      exact ⟨rfl, (Fr.refl [] w).drewN _⟩

theorem same_nil (w : World) :
    Calls Tryd.prog 11 #[.slice none 0 0, .slice none 0 0] w fun e w' => e = .returned (.bool true) ∧ Fr [] w w' := by
  go_enter Tryd.func11, Tryd.ntmps11
  go_wp2_with fail
  go_loopw [13] (fun i wr => i = .int .i64 0 ∧ wr = w) (fun i _ => 0)
  case atStart => exact ⟨rfl, rfl⟩
  case round =>
    obtain ⟨rfl, rfl⟩ := hrel
    go_wp2_with fail
    go_ret
    exact ⟨rfl, Fr.refl _ _⟩

set_option maxHeartbeats 1000000 in
set_option maxRecDepth 100000 in
/-- a token's text -/
theorem RText5_any (t : Tok) (h0 : -9223372036854775808 ≤ t.n) (h1 : t.n ≤ 9223372036854775807) (hx : t.text.length ≤ 100000) (w : World) :
    Calls Tryd.prog 12 #[.agg #[.int .i64 t.k, .int .i64 t.at', .string ⟨t.text.toArray⟩, .int .i64 t.n]] w fun e w' => e = .returned (.string ⟨(tokText t.k t.text t.n).toArray⟩) ∧ Fr [] w w' := by
  obtain ⟨k, a, x, n⟩ := t
  simp only at h0 h1 hx ⊢
  have cn := fun w => Lib.hid (RText_any n h0 h1 w)
  have cq := fun w => Lib.hid (RQuote_any ⟨x.toArray⟩ (by show x.length ≤ 16777216; omega) w)
  have hxa : (ByteArray.mk x.toArray).data.toList = x := rfl
  rw [hxa] at cq
  clear hxa
  unfold tokText
  have fA : Fr [] w (w.alloc (.cells #[.int .i64 k, .int .i64 a, .string ⟨x.toArray⟩, .int .i64 n] 31)) := (Fr.refl [] w).alloc _
  by_cases k3 : k = 3
  · subst k3
    rw [if_pos rfl]
    go_enter Tryd.func12, Tryd.ntmps12
    go_wp2_with fail
    go_ret
    exact ⟨by simp [ByteArray.mk_append_mk], fA⟩
  · rw [if_neg k3]
    have d3 : (k == 3) = false := beq_eq_false_iff_ne.2 k3
    by_cases k4 : k = 4
    · subst k4
      rw [if_pos rfl]
      clear d3 k3
      go_enter Tryd.func12, Tryd.ntmps12
      go_wp2_with fail
      refine (cn _).out.mono ?_; rintro e x1 ⟨rfl, f1⟩; go_wp2_with fail
      go_ret
      exact ⟨rfl, fA.trans f1⟩
    · rw [if_neg k4]
      have d4 : (k == 4) = false := beq_eq_false_iff_ne.2 k4
      by_cases k5 : k = 5
      · subst k5
        rw [if_pos rfl]
        clear d3 k3 d4 k4
        go_enter Tryd.func12, Tryd.ntmps12
        go_wp2_with fail
        refine (cq _).out.mono ?_; rintro e x1 ⟨rfl, f1⟩; go_wp2_with fail
        go_ret
        exact ⟨rfl, fA.trans f1⟩
      · rw [if_neg k5]
        have d5 : (k == 5) = false := beq_eq_false_iff_ne.2 k5
        go_enter Tryd.func12, Tryd.ntmps12
        go_wp2_with fail
        go_ret
        exact ⟨rfl, fA⟩

/-! ### calls whose answers the document fixes -/
def aw1 : List Tok := [⟨6, 0, [108, 101, 116], 0⟩, ⟨1, 4, [120], 0⟩, ⟨7, 5, [61], 0⟩, ⟨3, 6, [65], 0⟩, ⟨4, 9, [], 5⟩, ⟨0, 10, [], 0⟩]
theorem aw1_eq : lexOf [108, 101, 116, 32, 120, 61, 35, 65, 32, 53] = .ok aw1 := by rfl
theorem aw2_eq : lexOf [120, 32, 49, 50, 97] = .error (20, 2) := by rfl
theorem kLex1 (w : World) (hE : EnvL w) : Calls Tryd.prog 9 #[.string ⟨#[108, 101, 116, 32, 120, 61, 35, 65, 32, 53]⟩] w fun e w' => (∃ g c, e = .returned (.tuple #[.slice (some ⟨g, 0, none⟩) 6 c, .int .i64 0, .int .i64 0]) ∧ g < w'.heap.size ∧ RT g aw1 w') ∧ Fr [] w w' := by
  refine (Lex_any ⟨#[108, 101, 116, 32, 120, 61, 35, 65, 32, 53]⟩ (by decide) w hE).mono ?_
  rintro e w' ⟨h, hf⟩
  have e1 : (ByteArray.mk #[108, 101, 116, 32, 120, 61, 35, 65, 32, 53]).data.toList = [108, 101, 116, 32, 120, 61, 35, 65, 32, 53] := rfl
  rw [e1, aw1_eq] at h
  obtain ⟨v, rfl, hO⟩ := h
  obtain ⟨g, c, rfl, _, hg, hR⟩ := form_ownT hO (by unfold aw1; simp)
  exact ⟨⟨g, c, rfl, hg, hR⟩, hf⟩
theorem kLex2 (w : World) (hE : EnvL w) : Calls Tryd.prog 9 #[.string ⟨#[120, 32, 49, 50, 97]⟩] w fun e w' => e = .returned (.tuple #[.slice none 0 0, .int .i64 20, .int .i64 2]) ∧ Fr [] w w' := by
  refine (Lex_any ⟨#[120, 32, 49, 50, 97]⟩ (by decide) w hE).mono ?_
  rintro e w' ⟨h, hf⟩
  have e1 : (ByteArray.mk #[120, 32, 49, 50, 97]).data.toList = [120, 32, 49, 50, 97] := rfl
  rw [e1, aw2_eq] at h
  exact ⟨h, hf⟩
theorem kW1 (w : World) (hE : EnvL w) : Calls Tryd.prog 13 #[.string ⟨#[108, 101, 116]⟩] w fun e w' => e = .returned (.bool true) ∧ Fr [] w w' :=
  (IsWord_any ⟨#[108, 101, 116]⟩ (by decide) w hE).mono fun e w' h => ⟨h.1.trans (ret_bool (by decide)), h.2⟩
theorem kW2 (w : World) (hE : EnvL w) : Calls Tryd.prog 13 #[.string ⟨#[120]⟩] w fun e w' => e = .returned (.bool false) ∧ Fr [] w w' :=
  (IsWord_any ⟨#[120]⟩ (by decide) w hE).mono fun e w' h => ⟨h.1.trans (ret_bool (by decide)), h.2⟩
theorem kN1 (w : World) (hE : EnvL w) : Calls Tryd.prog 14 #[.string ⟨#[120]⟩] w fun e w' => e = .returned (.bool true) ∧ Fr [] w w' :=
  (IsName_any ⟨#[120]⟩ (by decide) w hE).mono fun e w' h => ⟨h.1.trans (ret_bool (by decide)), h.2⟩
theorem kN2 (w : World) (hE : EnvL w) : Calls Tryd.prog 14 #[.string ⟨#[108, 101, 116]⟩] w fun e w' => e = .returned (.bool false) ∧ Fr [] w w' :=
  (IsName_any ⟨#[108, 101, 116]⟩ (by decide) w hE).mono fun e w' h => ⟨h.1.trans (ret_bool (by decide)), h.2⟩

set_option maxHeartbeats 1000000 in
set_option maxRecDepth 100000 in
theorem awake5_any (w : World) (hE : EnvL w) :
    Calls Tryd.prog 8 #[] w fun e w' => e = .returned (.bool true) ∧ Fr [] w w' := by
  go_enter Tryd.func8, Tryd.ntmps8
  go_wp2_with fail
  refine (kLex1 _ hE).mono ?_; rintro e w1 ⟨⟨g, c, rfl, hg, hR⟩, f1⟩; go_wp2_with fail
  refine (kLex2 _ (hE.fr f1)).mono ?_; rintro e w2 ⟨rfl, f2⟩
  have hR := hR.fr f2 hg
  have r0 : w2.cell? ⟨g, 0, none⟩ = some (.int .i64 6) := hR.c0 0 _ rfl
  have r1 : w2.cell? ⟨g, 6, none⟩ = some (.string ⟨#[120]⟩) := hR.c2 1 _ rfl
  have r3 : w2.cell? ⟨g, 14, none⟩ = some (.string ⟨#[65]⟩) := hR.c2 3 _ rfl
  have r4 : w2.cell? ⟨g, 19, none⟩ = some (.int .i64 5) := hR.c3 4 _ rfl
  have r5 : w2.cell? ⟨g, 21, none⟩ = some (.int .i64 10) := hR.c1 5 _ rfl
  clear hR
  go_wp2_with fail
  refine (kW1 _ ((hE.fr f1).fr f2)).mono ?_; rintro e w3 ⟨rfl, f3⟩; go_wp2_with fail
  refine (kW2 _ (((hE.fr f1).fr f2).fr f3)).mono ?_; rintro e w4 ⟨rfl, f4⟩; go_wp2_with fail
  refine (kN1 _ ((((hE.fr f1).fr f2).fr f3).fr f4)).mono ?_; rintro e w5 ⟨rfl, f5⟩; go_wp2_with fail
  refine (kN2 _ (((((hE.fr f1).fr f2).fr f3).fr f4).fr f5)).mono ?_; rintro e w6 ⟨rfl, f6⟩; go_wp2_with fail
  go_ret
  exact ⟨rfl, (((((f1.trans f2).trans f3).trans f4).trans f5).trans f6)⟩
end Go.Proofs.YteffobcelgbiiaaDoor
