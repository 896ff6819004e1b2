/- Layer 5, walks: the reference's token at a place: signs; all cases. -/
import Derived.Test.YteffobcelgbiiaaDoorL7
import Derived.IntWalk
namespace Go.Proofs.YteffobcelgbiiaaDoor
open Go.RowKit

set_option maxHeartbeats 1000000 in
set_option maxRecDepth 100000 in
theorem Rone_sign (s : ByteArray) (hs : s.size ≤ 1000000) (k : Nat) (hk : k < s.size) (h1 : smallB s[k] = false) (h2 : greatB s[k] = false) (h3 : s[k] ≠ 35) (h4 : isDig s[k] = false) (h5 : s[k] ≠ 34) (w : World) (hE : EnvL w) :
    Calls Tryd.prog 16 #[.string s, .int .i64 k] w fun e w' => oneOk (tok (s.data.toList.drop k)) k k e ∧ Fr [] w w' := by
  obtain ⟨hl, h95⟩ := not_small h1
  have cl := fun w => Lib.hid (letter_low s[k] w)
  have cg := fun w => Lib.hid (letter_great s[k] w)
  have cd := fun w => Lib.hid (letter_dig s[k] w)
  have b35 : (((s[k].toNat : Nat) : Int) == 35) = false := byte_ne (n := 35) (by omega) h3
  have b34 : (((s[k].toNat : Nat) : Int) == 34) = false := byte_ne (n := 34) (by omega) h5
  have HT : Hid (tok (s.data.toList.drop k) = match signsL.find? (fun x => x.isPrefixOf (s.data.toList.drop k)) with
      | none => .error 20
      | some x => .ok (7, x, 0, x.length)) := Lib.hid (by
    rw [drop_head s k hk, tok, if_neg (by simp [h1]), if_neg (by simp [h2]), if_neg (fun x => h3 x.1), if_neg (by simp [h4]), if_neg h5]
    cases signsL.find? (fun x => x.isPrefixOf (s[k] :: s.data.toList.drop (k + 1))) with
    | none => rfl
    | some x => rfl)
  generalize tok (s.data.toList.drop k) = T at *
  clear h1 h3 h5
  go_enter Tryd.func16, Tryd.ntmps16
  go_wp2_with fail
  have f0 : Fr [] w ((w.alloc (.cells #[.int .i64 0, .int .i64 0, .string ⟨#[]⟩, .int .i64 0] 31)).alloc (.cells #[.int .i64 0, .int .i64 k, .string ⟨#[]⟩, .int .i64 0] 31)) := ((Fr.refl [] w).alloc _).alloc _
  have g0 : ((w.alloc (.cells #[.int .i64 0, .int .i64 0, .string ⟨#[]⟩, .int .i64 0] 31)).alloc (.cells #[.int .i64 0, .int .i64 k, .string ⟨#[]⟩, .int .i64 0] 31)).heap[w.heap.size]? = some (.cells #[.int .i64 0, .int .i64 0, .string ⟨#[]⟩, .int .i64 0] 31 (0, 0)) := heap_old (heap_new w _) _
  have g1 : ((w.alloc (.cells #[.int .i64 0, .int .i64 0, .string ⟨#[]⟩, .int .i64 0] 31)).alloc (.cells #[.int .i64 0, .int .i64 k, .string ⟨#[]⟩, .int .i64 0] 31)).heap[w.heap.size + 1]? = some (.cells #[.int .i64 0, .int .i64 k, .string ⟨#[]⟩, .int .i64 0] 31 (0, 0)) := by
    have := heap_new (w.alloc (.cells #[.int .i64 0, .int .i64 0, .string ⟨#[]⟩, .int .i64 0] 31)) (.cells #[.int .i64 0, .int .i64 k, .string ⟨#[]⟩, .int .i64 0] 31)
    rw [World.size_alloc] at this
    exact this
  generalize ((w.alloc (.cells #[.int .i64 0, .int .i64 0, .string ⟨#[]⟩, .int .i64 0] 31)).alloc (.cells #[.int .i64 0, .int .i64 k, .string ⟨#[]⟩, .int .i64 0] 31)) = w1 at *
  have hBw : w.heap.size ≤ w.heap.size := Nat.le_refl _
  generalize hB : w.heap.size = B at g0 g1 hBw ⊢
  refine (cl _).out.mono ?_; rintro e x1 ⟨rfl, rfl⟩; go_wp2_with fail
  refine (cg _).out.mono ?_; rintro e x1 ⟨rfl, rfl⟩; go_wp2_with fail
  refine (cd _).out.mono ?_; rintro e x1 ⟨rfl, rfl⟩; go_wp2_with fail
  refine (Signs_any _).mono ?_; rintro e x1 ⟨rfl, rfl⟩
  have gS : (w1.alloc (strO signsL)).heap[w1.heap.size]? = some (strO signsL) := heap_new w1 _
  have g0 := heap_old g0 (strO signsL)
  have g1 := heap_old g1 (strO signsL)
  have f0 := f0.alloc (strO signsL)
  have hC : B + 1 < w1.heap.size := lt_of_heap (by assumption)
  generalize w1.alloc (strO signsL) = w2 at *
  generalize w1.heap.size = C at *
  clear h2 h4 hl h95 cl cg cd b35 b34
  go_wp2_with fail
  go_loopw [19, 20] (fun i _ wr => ∃ j : Nat, i = .int .i64 j ∧ j ≤ 20 ∧ Fr [] w wr ∧ wr.heap[B]? = some (.cells #[.int .i64 0, .int .i64 0, .string ⟨#[]⟩, .int .i64 0] 31 (0, 0)) ∧ wr.heap[B + 1]? = some (.cells #[.int .i64 0, .int .i64 k, .string ⟨#[]⟩, .int .i64 0] 31 (0, 0)) ∧ wr.heap[C]? = some (strO signsL) ∧ Hid (∀ y ∈ signsL.take j, y.isPrefixOf (s.data.toList.drop k) = false)) (fun i _ _ => 20 - (intOf i).toNat)
  case atStart => exact ⟨0, rfl, by omega, f0, g0, g1, gS, Lib.hid (fun y hy => by simp at hy)⟩
  case round =>
    obtain ⟨j, rfl, hj, f0, g0, g1, gS, HN⟩ := hrel
    have hlen : signsL.length = 20 := rfl
    by_cases hlt : j < 20
    · have hcell := strO_at gS j (by omega)
      have hj2 : j < signsL.length := by omega
      have hxm : signsL[j] ∈ signsL := List.getElem_mem hj2
      have hxf := signs_facts _ hxm
      have htk : signsL.take (j + 1) = signsL.take j ++ [signsL[j]] := List.take_succ_eq_append_getElem hj2
      have hpre : signsL.take j ++ [signsL[j]] <+: signsL := by rw [← htk]; exact List.take_prefix _ _
      have hpx : signsL[j].isPrefixOf (s.data.toList.drop k) = true ↔ k + signsL[j].length ≤ s.size ∧ (s.extract k (k + signsL[j].length)).toList = signsL[j] := by
        rw [List.isPrefixOf_iff_prefix, ext_at, ByteArray.toList_eq, List.prefix_iff_eq_take]
        constructor
        · intro h
          refine ⟨?_, h.symm⟩
          have := congrArg List.length h
          rw [List.length_take, drop_len] at this
          omega
        · intro h; exact h.2.symm
      have hstep : signsL[j].isPrefixOf (s.data.toList.drop k) = false → Hid (∀ y ∈ signsL.take (j + 1), y.isPrefixOf (s.data.toList.drop k) = false) := fun h => Lib.hid (fun y hy => by
        rw [htk, List.mem_append, List.mem_singleton] at hy
        rcases hy with hy | rfl
        · exact HN.out y hy
        · exact h)
      have hwin : signsL[j].isPrefixOf (s.data.toList.drop k) = true → T = .ok (7, signsL[j], 0, signsL[j].length) := fun h => by
        rw [HT.out, find_last (p := fun x : List UInt8 => x.isPrefixOf (s.data.toList.drop k)) hpre HN.out h]
      clear htk hpre hxm HN
      generalize signsL[j] = X at *
      obtain ⟨hx1, hx2, _, _⟩ := hxf
      by_cases hle : k + X.length ≤ s.size
      · by_cases heq : (s.extract k (k + X.length)).toList = X
        · have hT := Lib.hid (hwin (hpx.2 ⟨hle, heq⟩))
          have q1 : decide ((k : Int) + (X.length : Int) ≤ (s.size : Int)) = true := decide_eq_true (by omega)
          have q2 : 0 ≤ (k : Int) ∧ (k : Int) ≤ (k : Int) + (X.length : Int) ∧ (k : Int) + (X.length : Int) ≤ (s.size : Int) := by omega
          have q3 : ((s.extract k (k + X.length)).toList == X) = true := by rw [beq_iff_eq]; exact heq
          clear hwin hstep hpx heq HT
          go_wp2_with fail
          have q4 : IntKind.i64.wrap ((k : Int) + (X.length : Int)) = (k : Int) + (X.length : Int) := IntWalk.i64_in _ (by omega)
          have q5 : ((k : Int) + (X.length : Int)).toNat = k + X.length := by omega
          go_quiet (fail)
          clear q4 q5
          have f0 := f0.drewN nq
          have g0 : (wr.drewN nq).heap[B]? = _ := g0
          have g1 : (wr.drewN nq).heap[B + 1]? = _ := g1
          have gS : (wr.drewN nq).heap[C]? = _ := gS
          have hcell : (wr.drewN nq).cell? ⟨C, j, none⟩ = _ := hcell
          generalize wr.drewN nq = wq at *
          obtain ⟨c0, c1, c2, c3, z0, z1, z2, z3⟩ := cells4 g0
          obtain ⟨b0, b1, b2, b3, y0, y1, y2, y3⟩ := cells4 g1
          have gz := set4 (show ((wq.setCell ⟨B + 1, 0, none⟩ (.int .i64 7)).setCell ⟨B + 1, 2, none⟩ (.string ⟨X.toArray⟩)).heap[B]? = some (.cells #[.int .i64 0, .int .i64 0, .string ⟨#[]⟩, .int .i64 0] 31 (0, 0)) by simp [World.setCell, Array.getElem?_modify, g0]) (.int .i64 7) (.int .i64 k) (.string ⟨X.toArray⟩) (.int .i64 0)
          have fz := (((f0).store (p := ⟨B + 1, 0, none⟩) (by show w.heap.size ≤ B + 1; omega) (.int .i64 7)).store (p := ⟨B + 1, 2, none⟩) (by show w.heap.size ≤ B + 1; omega) (.string ⟨X.toArray⟩)).store4 hB (.int .i64 7) (.int .i64 k) (.string ⟨X.toArray⟩) (.int .i64 0)
          clear g0 g1
          go_wp2_with fail
          generalize ((((((wq.setCell ⟨B + 1, 0, none⟩ (.int .i64 7)).setCell ⟨B + 1, 2, none⟩ (.string ⟨X.toArray⟩))).setCell ⟨B, 0, none⟩ (.int .i64 7)).setCell ⟨B, 1, none⟩ (.int .i64 k)).setCell ⟨B, 2, none⟩ (.string ⟨X.toArray⟩)).setCell ⟨B, 3, none⟩ (.int .i64 0) = Z at gz fz ⊢
          obtain ⟨d0, d1, d2, d3, _⟩ := cells4 gz
          refine bodyPost_ret (v := .tuple #[.agg #[.int .i64 7, .int .i64 k, .string ⟨X.toArray⟩, .int .i64 0], .int .i64 ((k + X.length : Nat) : Int), .int .i64 0]) ?_ rfl ?_
          · simp [results, Tryd.f16, go_sem, d0, d1, d2, d3]
          · exact ⟨by rw [hT.out]; exact oneOk_ok rfl, fz⟩
        · have HS := hstep (by rw [Bool.eq_false_iff]; intro h; exact heq (hpx.1 h).2)
          have q1 : decide ((k : Int) + (X.length : Int) ≤ (s.size : Int)) = true := decide_eq_true (by omega)
          have q2 : 0 ≤ (k : Int) ∧ (k : Int) ≤ (k : Int) + (X.length : Int) ∧ (k : Int) + (X.length : Int) ≤ (s.size : Int) := by omega
          have q3 : ((s.extract k (k + X.length)).toList == X) = false := by rw [beq_eq_false_iff_ne]; exact heq
          clear hwin hstep hpx heq
          go_wp2_with fail
          have q4 : IntKind.i64.wrap ((k : Int) + (X.length : Int)) = (k : Int) + (X.length : Int) := IntWalk.i64_in _ (by omega)
          have q5 : ((k : Int) + (X.length : Int)).toNat = k + X.length := by omega
          go_quiet (fail)
          clear q4 q5
          have f0 := f0.drewN nq
          have g0 : (wr.drewN nq).heap[B]? = _ := g0
          have g1 : (wr.drewN nq).heap[B + 1]? = _ := g1
          have gS : (wr.drewN nq).heap[C]? = _ := gS
          have hcell : (wr.drewN nq).cell? ⟨C, j, none⟩ = _ := hcell
          generalize wr.drewN nq = wq at *
          go_wp2_with fail
          go_roundw
          case rel => exact ⟨j + 1, by go_num, by omega, f0, g0, g1, gS, HS⟩
          case measure => simp [intOf]; omega
      · have HS := hstep (by rw [Bool.eq_false_iff]; intro h; exact hle (hpx.1 h).1)
        have q1 : decide ((k : Int) + (X.length : Int) ≤ (s.size : Int)) = false := decide_eq_false (by omega)
        clear hwin hstep hpx
        go_wp2_with fail
        have q4 : IntKind.i64.wrap ((k : Int) + (X.length : Int)) = (k : Int) + (X.length : Int) := IntWalk.i64_in _ (by omega)
        have q5 : ((k : Int) + (X.length : Int)).toNat = k + X.length := by omega
        go_quiet (fail)
        clear q4 q5
        have f0 := f0.drewN nq
        have g0 : (wr.drewN nq).heap[B]? = _ := g0
        have g1 : (wr.drewN nq).heap[B + 1]? = _ := g1
        have gS : (wr.drewN nq).heap[C]? = _ := gS
        have hcell : (wr.drewN nq).cell? ⟨C, j, none⟩ = _ := hcell
        generalize wr.drewN nq = wq at *
        go_wp2_with fail
        go_roundw
        case rel => exact ⟨j + 1, by go_num, by omega, f0, g0, g1, gS, HS⟩
        case measure => simp [intOf]; omega
    · have hT : Hid (T = .error 20) := Lib.hid (by
        rw [HT.out, List.find?_eq_none.2 (fun y hy => by have := HN.out y (by rw [List.take_of_length_le (by omega)]; exact hy); simp [this])])
      clear HT HN
      obtain ⟨c0, c1, c2, c3, z0, z1, z2, z3⟩ := cells4 g0
      obtain ⟨b0, b1, b2, b3, y0, y1, y2, y3⟩ := cells4 g1
      have gz := set4 g0 (.int .i64 0) (.int .i64 k) (.string ⟨#[]⟩) (.int .i64 0)
      have fz := (f0).store4 hB (.int .i64 0) (.int .i64 k) (.string ⟨#[]⟩) (.int .i64 0)
      clear g0 g1
      go_wp2_with fail
      generalize (((wr.setCell ⟨B, 0, none⟩ (.int .i64 0)).setCell ⟨B, 1, none⟩ (.int .i64 k)).setCell ⟨B, 2, none⟩ (.string ⟨#[]⟩)).setCell ⟨B, 3, none⟩ (.int .i64 0) = Z at gz fz ⊢
      obtain ⟨d0, d1, d2, d3, _⟩ := cells4 gz
      refine bodyPost_ret (v := .tuple #[.agg #[.int .i64 0, .int .i64 k, .string ⟨#[]⟩, .int .i64 0], .int .i64 k, .int .i64 20]) ?_ rfl ?_
      · simp [results, Tryd.f16, go_sem, d0, d1, d2, d3]
      · exact ⟨by rw [hT.out]; exact oneOk_err rfl, fz⟩

end Go.Proofs.YteffobcelgbiiaaDoor
