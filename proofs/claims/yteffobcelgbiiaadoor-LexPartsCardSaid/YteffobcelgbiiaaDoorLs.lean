/- Layer 5, walks: the signs, by a range over strings.SplitSeq. -/
import Derived.Test.YteffobcelgbiiaaDoorL5
import Derived.Test.YteffobcelgbiiaaDoorLg
namespace Go.Proofs.YteffobcelgbiiaaDoor
open Go.RowKit Go.Shelf
attribute [local go_sem] Oper.semAt_some

/-- the signs from the k-th on, with blanks between them -/
def restB (k : Nat) : List UInt8 := ([32] : List UInt8).intercalate (signsL.drop k)
theorem srest_zero : restB 0 = signsB := by decide
theorem srest_step : ∀ k : Fin 19, Lib.indexByte (restB k.val) 32 = ((signsL.getD k.val []).length : Nat) ∧ (restB k.val).take (signsL.getD k.val []).length = signsL.getD k.val [] ∧ (restB k.val).drop ((signsL.getD k.val []).length + 1) = restB (k.val + 1) ∧ (signsL.getD k.val []).length + 1 ≤ (restB k.val).length ∧ 1 ≤ (signsL.getD k.val []).length := by decide +kernel
theorem srest_last : Lib.indexByte (restB 19) 32 = -1 ∧ restB 19 = signsL.getD 19 [] := by decide +kernel
theorem srest_len : ∀ k : Nat, k ≤ 19 → (restB k).length ≤ 100 := by
  have h : ∀ k : Fin 20, (restB k.val).length ≤ 100 := by decide +kernel
  exact fun k hk => h ⟨k, by omega⟩
def strV (l : List UInt8) : Value := .string ⟨l.toArray⟩
theorem set_same {W : World} {b : Nat} {x : Value} {T : TypeId} {fr : Nat × Nat} (h : W.heap[b]? = some (.cells #[x] T fr)) (v : Value) : (W.setCell ⟨b, 0, none⟩ v).heap[b]? = some (.cells #[v] T fr) := by
  simp [World.setCell, Array.getElem?_modify, h]
def lenAt (b : Nat) (w : World) : Nat := match w.cell? ⟨b, 0, none⟩ with
  | some (.string s) => s.size
  | _ => 0

set_option maxHeartbeats 1000000 in
set_option maxRecDepth 100000 in
theorem split_in (n : Nat) (hn : 1 ≤ n) (b B : Nat) (hB : b + 3 ≤ B) (w : World)
    (hs : w.heap[b]? = some (.cells #[strV signsB] 9 (0, 0))) (hsep : w.heap[b + 1]? = some (.cells #[strV [32]] 9 (0, 0))) (hsv : w.heap[b + 2]? = some (.cells #[.int .i64 0] 3 (0, 0))) :
    CellSeq Fence.wide n Tryd.prog 76 #[.pointer (some ⟨b + 1, 0, none⟩), .pointer (some ⟨b, 0, none⟩), .pointer (some ⟨b + 2, 0, none⟩)] (fun x : List UInt8 => #[strV x]) b B (fun xs => xs = signsL) (fun pre => pre <+: signsL) 20 w := by
  intro l J Jx W hW hJ hJx hY h0
  refine callsIn_of_wp Tryd.func76 rfl trivial ?_ rfl
  simp only [Tryd.ntmps76, List.size_toArray, List.length_cons, List.length_nil, Nat.reduceAdd, Nat.reduceSub, Array.replicate_succ, Array.replicate_zero, List.push_toArray, List.append_toArray, List.nil_append, List.cons_append]
  have cs : W.cell? ⟨b, 0, none⟩ = some (strV signsB) := by rw [cell_of ((hW.block b (by omega)).trans hs)]; rfl
  have cp : W.cell? ⟨b + 1, 0, none⟩ = some (strV [32]) := by rw [cell_of ((hW.block (b + 1) (by omega)).trans hsep)]; rfl
  have cv : W.cell? ⟨b + 2, 0, none⟩ = some (.int .i64 0) := by rw [cell_of ((hW.block (b + 2) (by omega)).trans hsv)]; rfl
  have fz : W.frozen? ⟨b, 0, none⟩ = false := frozen_of ((hW.block b (by omega)).trans hs) 0
  unfold strV at cp
  gi_wp2
  gi_loopw [] (fun wr => ∃ k : Nat, k ≤ 19 ∧ wr.heap[b]? = some (.cells #[strV (restB k)] 9 (0, 0)) ∧ wr.heap[b + 1]? = some (.cells #[strV [32]] 9 (0, 0)) ∧ wr.heap[b + 2]? = some (.cells #[.int .i64 0] 3 (0, 0)) ∧ J (signsL.take k) wr) (fun wr => lenAt b wr)
  case atStart => exact ⟨0, by omega, by rw [srest_zero]; exact (hW.block b (by omega)).trans hs, (hW.block (b + 1) (by omega)).trans hsep, (hW.block (b + 2) (by omega)).trans hsv, h0⟩
  case round =>
    obtain ⟨k, hk, hb0, hb1, hb2, hJk⟩ := hrel
    have cs' : wr.cell? ⟨b, 0, none⟩ = some (strV (restB k)) := cell_of hb0 0
    have fz' : wr.frozen? ⟨b, 0, none⟩ = false := frozen_of hb0 0
    have cp' : wr.cell? ⟨b + 1, 0, none⟩ = some (.string ⟨#[32]⟩) := cell_of hb1 0
    have cv' : wr.cell? ⟨b + 2, 0, none⟩ = some (.int .i64 0) := cell_of hb2 0
    clear cs cp cv fz
    by_cases hlt : k < 19
    · obtain ⟨i1, i2, i3, i4, i5⟩ := srest_step ⟨k, hlt⟩
      simp only at i1 i2 i3 i4 i5
      have hlen : (signsL.take k).length = k := by rw [List.length_take]; exact Nat.min_eq_left (by show k ≤ 20; omega)
      have htk : signsL.take k ++ [signsL.getD k []] = signsL.take (k + 1) := by
        rw [List.take_add_one, List.getD_eq_getElem?_getD, List.getElem?_eq_getElem (by show k < 20; omega)]; rfl
      obtain ⟨m, hm⟩ : ∃ m, (signsL.getD k []).length = m := ⟨_, rfl⟩
      obtain ⟨R, hRR⟩ : ∃ R : ByteArray, R = ⟨(restB k).toArray⟩ := ⟨_, rfl⟩
      have hRs : R.size = (restB k).length := by rw [hRR]; rfl
      have hX : strV (signsL.getD k []) = .string (R.extract 0 m) := by
        rw [ext_take, hRR, ← hm]
        show strV _ = .string ⟨(List.take _ (restB k)).toArray⟩
        rw [i2]; rfl
      have hX2 : Value.string (R.extract (m + 1) R.size) = strV (restB (k + 1)) := by
        rw [← i3, hm]
        have e : R.extract (m + 1) R.size = ⟨((restB k).drop (m + 1)).toArray⟩ := by
          apply ByteArray.ext
          apply Array.ext'
          have := Lib.extract_to_end R (m + 1)
          rw [this, hRR]
        rw [e]; rfl
      have hY1 := hY (signsL.take k) (signsL.getD k []) wr hJk (by omega)
      rw [hX, htk] at hY1
      obtain ⟨fn, tmps, assign, body, hy, hR⟩ := hY1
      have hix := Tryd.strings_Index_one R 32 wr
      have i1' : Lib.indexByte R.data.toList 32 = (m : Nat) := by rw [hRR, ← hm]; exact i1
      rw [i1'] at hix
      have cs2 : wr.cell? ⟨b, 0, none⟩ = some (.string R) := by rw [cs', hRR]; rfl
      have hmR : m + 1 ≤ R.size := by omega
      have hRb : R.size ≤ 100 := by rw [hRs]; exact srest_len k hk
      have q1 : 0 ≤ (m : Int) ∧ (m : Int) ≤ (R.size : Int) := by omega
      have q2 : 0 ≤ (m : Int) + 1 ∧ (m : Int) + 1 ≤ (R.size : Int) := by omega
      have HX2 := Lib.hid hX2
      have HL := Lib.hid (show (restB (k + 1)).length < R.size by rw [← i3, List.length_drop]; omega)
      clear i1 i2 i3 i4 i5 i1' hX hX2 htk hm hRR hRs cs' hY hlen
      gi_wp2_with (refine ⟨trivial, ?_⟩; gi_at_call 36; refine (callsIn_wide.2 hix).mono ?_; rintro e x1 ⟨rfl, rfl⟩)
      refine hR.mono ?_
      rintro e V (⟨rfl, hJ', hk'⟩ | ⟨rfl, hJx'⟩)
      · have vb0 := (hk'.block b (by omega)).trans hb0
        have vb1 := (hk'.block (b + 1) (by omega)).trans hb1
        have vb2 := (hk'.block (b + 2) (by omega)).trans hb2
        have d0 : V.cell? ⟨b, 0, none⟩ = some (.string R) := by rw [cell_of vb0, ← cs2, cell_of hb0]
        have d1 : V.cell? ⟨b + 1, 0, none⟩ = some (.string ⟨#[32]⟩) := cell_of vb1 0
        have d2 : V.frozen? ⟨b, 0, none⟩ = false := frozen_of vb0 0
        have hl0 : lenAt b x1 = R.size := by unfold lenAt; rw [cs2]
        clear cs2 fz' cp' cv' hJk
        gi_wp2
        rw [HX2.out]
        refine ⟨⟨k + 1, by omega, set_same vb0 _, (putObj_setCell_heap (by omega)).trans vb1, (putObj_setCell_heap (by omega)).trans vb2, hJ.2 _ _ _ hJ'⟩, ?_⟩
        rw [hl0]
        unfold lenAt
        rw [cell_of (set_same vb0 _)]
        exact HL.out
      · gi_wp2
        refine bodyPost_ret (results_none rfl _ _ _) rfl ?_
        exact ⟨⟨_, rfl⟩, .inr ⟨signsL.take (k + 1), List.take_prefix _ _, hJx'⟩⟩
    · have hk9 : k = 19 := by omega
      subst hk9
      obtain ⟨R, hRR⟩ : ∃ R : ByteArray, R = ⟨(restB 19).toArray⟩ := ⟨_, rfl⟩
      have hX : strV (signsL.getD 19 []) = .string R := by rw [← srest_last.2, hRR]; rfl
      have hY1 := hY (signsL.take 19) (signsL.getD 19 []) wr hJk (by decide)
      rw [hX, show signsL.take 19 ++ [signsL.getD 19 []] = signsL from by decide] at hY1
      obtain ⟨fn, tmps, assign, body, hy, hR⟩ := hY1
      have hix := Tryd.strings_Index_one R 32 wr
      have i1' : Lib.indexByte R.data.toList 32 = -1 := by rw [hRR]; exact srest_last.1
      rw [i1'] at hix
      have cs2 : wr.cell? ⟨b, 0, none⟩ = some (.string R) := by rw [cs', hRR]; rfl
      clear i1' hX hRR cs' hY
      gi_wp2_with (refine ⟨trivial, ?_⟩; gi_at_call 36; refine (callsIn_wide.2 hix).mono ?_; rintro e x1 ⟨rfl, rfl⟩)
      refine hR.mono ?_
      rintro e V (⟨rfl, hJ', hk'⟩ | ⟨rfl, hJx'⟩)
      · gi_wp2
        go_end0
        exact ⟨⟨_, rfl⟩, .inl ⟨signsL, rfl, hJ'⟩⟩
      · gi_wp2
        go_end0
        exact ⟨⟨_, rfl⟩, .inr ⟨signsL, List.prefix_refl _, hJx'⟩⟩
end Go.Proofs.YteffobcelgbiiaaDoor
