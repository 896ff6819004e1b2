/- A part of the proof: Lu, L6, Lx, Lz, P1, P2, P3, Pq, Pp, Wa, WbC, WcC, WbD, WcD, Wd, P4, P5. -/
import Derived.BigQuiet
import Derived.Deep.QuietTactic
import Derived.Deep.AppendLies
import Derived.Deep.RegionHeld3
import Derived.RegionTactic
import Derived.ChangeAlike
import Derived.BigRegion
import Derived.Deep.DrawnRows
import Derived.Test.YtpjkfeehgookkaaGreatDoorCb1
namespace Go.Proofs.YtpjkfeehgookkaaGreatDoor
open Go.RowKit
def tokV (k : Int) (a0 : Nat) (t : List UInt8) (n : Int) : Value := .agg #[.int .i64 k, .int .i64 a0, .string ⟨t.toArray⟩, .int .i64 n]
def oneOk (r : Except Int (Int × List UInt8 × Int × Nat)) (a0 b0 : Nat) (e : Ending) : Prop := match r with
 | .ok (k, t, n, m) => e = .returned (.tuple #[tokV k a0 t n, .int .i64 ((b0 + m : Nat) : Int), .int .i64 0])
 | .error er => ∃ (k : Int) (a : Nat) (t : List UInt8) (n v2 : Int), e = .returned (.tuple #[tokV k a t n, .int .i64 v2, .int .i64 er])
theorem oneOk_err {er : Int} {a0 b0 : Nat} {k : Int} {a : Nat} {t : List UInt8} {n v2 : Int} {e : Ending} (h : e = .returned (.tuple #[tokV k a t n, .int .i64 v2, .int .i64 er])) : oneOk (.error er) a0 b0 e := ⟨k, a, t, n, v2, h⟩
theorem list_head (s : ByteArray) (h : 0 < s.size) : s.data.toList = s[0] :: s.data.toList.drop 1 := by
 have := drop_cons s 0 h
 simpa using this
theorem cells4 {x : World} {B : Nat} {T : TypeId} {a b c d : Value} (h : x.heap[B]? = some (.cells #[a, b, c, d] T (0, 0))) :
  x.cell? ⟨B, 0, none⟩ = some a ∧ x.cell? ⟨B, 1, none⟩ = some b ∧ x.cell? ⟨B, 2, none⟩ = some c ∧ x.cell? ⟨B, 3, none⟩ = some d ∧ x.frozen? ⟨B, 0, none⟩ = false ∧ x.frozen? ⟨B, 1, none⟩ = false ∧ x.frozen? ⟨B, 2, none⟩ = false ∧ x.frozen? ⟨B, 3, none⟩ = false :=
 ⟨cell_of h 0, cell_of h 1, cell_of h 2, cell_of h 3, frozen_of h 0, frozen_of h 1, frozen_of h 2, frozen_of h 3⟩
theorem set4 {x : World} {B : Nat} {T : TypeId} {a b c d : Value} (h : x.heap[B]? = some (.cells #[a, b, c, d] T (0, 0))) (p q r t : Value) :
  ((((x.setCell ⟨B, 0, none⟩ p).setCell ⟨B, 1, none⟩ q).setCell ⟨B, 2, none⟩ r).setCell ⟨B, 3, none⟩ t).heap[B]? = some (.cells #[p, q, r, t] T (0, 0)) := by
 simp [World.setCell, Array.getElem?_modify, h]
theorem Fr.store4 {w x : World} {B : Nat} (h : Fr [] w x) (hB : w.heap.size = B) (p q r t : Value) : Fr [] w ((((x.setCell ⟨B, 0, none⟩ p).setCell ⟨B, 1, none⟩ q).setCell ⟨B, 2, none⟩ r).setCell ⟨B, 3, none⟩ t) := by
 refine Fr.of_below ((((h.below0.setCell (p := ⟨B, 0, none⟩) ?_ p).setCell (p := ⟨B, 1, none⟩) ?_ q).setCell (p := ⟨B, 2, none⟩) ?_ r).setCell (p := ⟨B, 3, none⟩) ?_ t)
 all_goals (show w.heap.size ≤ B; omega)
set_option maxHeartbeats 1000000 in
set_option maxRecDepth 100000 in
theorem one_small (s : ByteArray) (hs : s.size ≤ 1000000) (hp : 0 < s.size) (h1 : smallB s[0] = true) (w : World) (hE : EnvL w) :
  Calls Tryz.prog 30 #[.string s] w fun e w' => oneOk (tok s.data.toList) 0 0 e ∧ Fr [] w w' := by
 have ht : tok s.data.toList = .ok (if isWordB (runL s.data.toList) = true then 6 else 1, runL s.data.toList, 0, (runL s.data.toList).length) := by
  rw [list_head s hp, tok, if_pos h1]
 rw [ht]
 have hsm := smallI_byte s[0]
 rw [h1] at hsm
 have wv : wrap32 ((s[0].toNat : Nat) : Int) = ((s[0].toNat : Nat) : Int) := by have := s[0].toNat_lt; unfold wrap32; omega
 have hrl := runL_le s.data.toList
 rw [size_list] at hrl
 have cw := fun w hE => Lib.hid (IsWord_any ⟨(runL s.data.toList).toArray⟩ (by show (runL s.data.toList).length ≤ 1000000; omega) w hE)
 have cr := fun w => Lib.hid (run_any s (by omega) w)
 clear ht h1
 generalize runL s.data.toList = X at *
 cases hw : isWordB X with
 | true =>
  have hw2 : isWordB (ByteArray.mk X.toArray).data.toList = true := hw
  rw [if_pos rfl]
  go_enter Tryz.func30, Tryz.ntmps30
  go_wp2_with fail
  have f0 : Fr [] w (w.alloc (.cells #[.int .i64 0, .int .i64 0, .string ⟨#[]⟩, .int .i64 0] 46)) := (Fr.refl [] w).alloc _
  have h0 : (w.alloc (.cells #[.int .i64 0, .int .i64 0, .string ⟨#[]⟩, .int .i64 0] 46)).heap[w.heap.size]? = some (.cells #[.int .i64 0, .int .i64 0, .string ⟨#[]⟩, .int .i64 0] 46 (0, 0)) := Array.getElem?_push_size
  generalize (w.alloc (.cells #[.int .i64 0, .int .i64 0, .string ⟨#[]⟩, .int .i64 0] 46)) = w1 at *
  have hBw : w.heap.size ≤ w.heap.size := Nat.le_refl _
  generalize hB : w.heap.size = B at h0 hBw ⊢
  refine (small_any _ _).mono ?_; rintro e x1 ⟨rfl, rfl⟩; go_wp2_with fail
  refine (cr _).out.mono ?_; rintro e x1 ⟨rfl, f1⟩; go_wp2_with fail
  refine (cw _ ((hE.fr f0).fr f1)).out.mono ?_; rintro e x2 ⟨rfl, f2⟩; rw [hw2]
  have g := f2.keep (f1.keep h0 (fun h => by cases h)) (fun h => by cases h)
  obtain ⟨c0, c1, c2, c3, z0, z1, z2, z3⟩ := cells4 g
  have ff := (f0.trans f1).trans f2
  have gz := set4 g (.int .i64 6) (.int .i64 0) (.string ⟨X.toArray⟩) (.int .i64 0)
  have fz := ff.store4 hB (.int .i64 6) (.int .i64 0) (.string ⟨X.toArray⟩) (.int .i64 0)
  clear h0 g
  go_wp2_with fail
  generalize (((x2.setCell ⟨B, 0, none⟩ (.int .i64 6)).setCell ⟨B, 1, none⟩ (.int .i64 0)).setCell ⟨B, 2, none⟩ (.string ⟨X.toArray⟩)).setCell ⟨B, 3, none⟩ (.int .i64 0) = Z at gz fz ⊢
  obtain ⟨d0, d1, d2, d3, _⟩ := cells4 gz
  refine bodyPost_ret (v := .tuple #[tokV 6 0 X 0, .int .i64 ((0 + X.length : Nat) : Int), .int .i64 0]) ?_ rfl ?_
  ·simp [results, Tryz.f30, go_sem, tokV, d0, d1, d2, d3]
  ·exact ⟨rfl, fz⟩
 | false =>
  have hw2 : isWordB (ByteArray.mk X.toArray).data.toList = false := hw
  rw [if_neg Bool.false_ne_true]
  go_enter Tryz.func30, Tryz.ntmps30
  go_wp2_with fail
  have f0 : Fr [] w (w.alloc (.cells #[.int .i64 0, .int .i64 0, .string ⟨#[]⟩, .int .i64 0] 46)) := (Fr.refl [] w).alloc _
  have h0 : (w.alloc (.cells #[.int .i64 0, .int .i64 0, .string ⟨#[]⟩, .int .i64 0] 46)).heap[w.heap.size]? = some (.cells #[.int .i64 0, .int .i64 0, .string ⟨#[]⟩, .int .i64 0] 46 (0, 0)) := Array.getElem?_push_size
  generalize (w.alloc (.cells #[.int .i64 0, .int .i64 0, .string ⟨#[]⟩, .int .i64 0] 46)) = w1 at *
  have hBw : w.heap.size ≤ w.heap.size := Nat.le_refl _
  generalize hB : w.heap.size = B at h0 hBw ⊢
  refine (small_any _ _).mono ?_; rintro e x1 ⟨rfl, rfl⟩; go_wp2_with fail
  refine (cr _).out.mono ?_; rintro e x1 ⟨rfl, f1⟩; go_wp2_with fail
  refine (cw _ ((hE.fr f0).fr f1)).out.mono ?_; rintro e x2 ⟨rfl, f2⟩; rw [hw2]
  have g := f2.keep (f1.keep h0 (fun h => by cases h)) (fun h => by cases h)
  obtain ⟨c0, c1, c2, c3, z0, z1, z2, z3⟩ := cells4 g
  have ff := (f0.trans f1).trans f2
  have gz := set4 g (.int .i64 1) (.int .i64 0) (.string ⟨X.toArray⟩) (.int .i64 0)
  have fz := ff.store4 hB (.int .i64 1) (.int .i64 0) (.string ⟨X.toArray⟩) (.int .i64 0)
  clear h0 g
  go_wp2_with fail
  generalize (((x2.setCell ⟨B, 0, none⟩ (.int .i64 1)).setCell ⟨B, 1, none⟩ (.int .i64 0)).setCell ⟨B, 2, none⟩ (.string ⟨X.toArray⟩)).setCell ⟨B, 3, none⟩ (.int .i64 0) = Z at gz fz ⊢
  obtain ⟨d0, d1, d2, d3, _⟩ := cells4 gz
  refine bodyPost_ret (v := .tuple #[tokV 1 0 X 0, .int .i64 ((0 + X.length : Nat) : Int), .int .i64 0]) ?_ rfl ?_
  ·simp [results, Tryz.f30, go_sem, tokV, d0, d1, d2, d3]
  ·exact ⟨rfl, fz⟩
set_option maxHeartbeats 1000000 in
set_option maxRecDepth 100000 in
theorem one_great (s : ByteArray) (hs : s.size ≤ 1000000) (hp : 0 < s.size) (h1 : smallB s[0] = false) (h2 : greatB s[0] = true) (w : World) (_hE : EnvL w) :
  Calls Tryz.prog 30 #[.string s] w fun e w' => oneOk (tok s.data.toList) 0 0 e ∧ Fr [] w w' := by
 have ht : tok s.data.toList = .ok (2, runL s.data.toList, 0, (runL s.data.toList).length) := by
  rw [list_head s hp, tok, if_neg (by simp [h1]), if_pos h2]
 rw [ht]
 have hsm := smallI_byte s[0]
 have hgr := greatI_byte s[0]
 rw [h1] at hsm
 rw [h2] at hgr
 have wv : wrap32 ((s[0].toNat : Nat) : Int) = ((s[0].toNat : Nat) : Int) := by have := s[0].toNat_lt; unfold wrap32; omega
 have hrl := runL_le s.data.toList
 rw [size_list] at hrl
 have cr := fun w => Lib.hid (run_any s (by omega) w)
 clear ht h1 h2
 generalize runL s.data.toList = X at *
 go_enter Tryz.func30, Tryz.ntmps30
 go_wp2_with fail
 have f0 : Fr [] w (w.alloc (.cells #[.int .i64 0, .int .i64 0, .string ⟨#[]⟩, .int .i64 0] 46)) := (Fr.refl [] w).alloc _
 have h0 : (w.alloc (.cells #[.int .i64 0, .int .i64 0, .string ⟨#[]⟩, .int .i64 0] 46)).heap[w.heap.size]? = some (.cells #[.int .i64 0, .int .i64 0, .string ⟨#[]⟩, .int .i64 0] 46 (0, 0)) := Array.getElem?_push_size
 generalize (w.alloc (.cells #[.int .i64 0, .int .i64 0, .string ⟨#[]⟩, .int .i64 0] 46)) = w1 at *
 have hBw : w.heap.size ≤ w.heap.size := Nat.le_refl _
 generalize hB : w.heap.size = B at h0 hBw ⊢
 refine (small_any _ _).mono ?_; rintro e x1 ⟨rfl, rfl⟩; go_wp2_with fail
 refine (great_any _ _).mono ?_; rintro e x1 ⟨rfl, rfl⟩; go_wp2_with fail
 refine (cr _).out.mono ?_; rintro e x1 ⟨rfl, f1⟩
 have g := f1.keep h0 (fun h => by cases h)
 obtain ⟨c0, c1, c2, c3, z0, z1, z2, z3⟩ := cells4 g
 have ff := f0.trans f1
 have gz := set4 g (.int .i64 2) (.int .i64 0) (.string ⟨X.toArray⟩) (.int .i64 0)
 have fz := ff.store4 hB (.int .i64 2) (.int .i64 0) (.string ⟨X.toArray⟩) (.int .i64 0)
 clear h0 g
 go_wp2_with fail
 generalize (((x1.setCell ⟨B, 0, none⟩ (.int .i64 2)).setCell ⟨B, 1, none⟩ (.int .i64 0)).setCell ⟨B, 2, none⟩ (.string ⟨X.toArray⟩)).setCell ⟨B, 3, none⟩ (.int .i64 0) = Z at gz fz ⊢
 obtain ⟨d0, d1, d2, d3, _⟩ := cells4 gz
 refine bodyPost_ret (v := .tuple #[tokV 2 0 X 0, .int .i64 ((0 + X.length : Nat) : Int), .int .i64 0]) ?_ rfl ?_
 ·simp [results, Tryz.f30, go_sem, tokV, d0, d1, d2, d3]
 ·exact ⟨rfl, fz⟩
set_option maxHeartbeats 1000000 in
set_option maxRecDepth 100000 in
theorem one_tag (s : ByteArray) (hs : s.size ≤ 1000000) (hp : 0 < s.size) (h1 : s[0] = 35) (hp2 : 1 < s.size) (h2 : greatB s[1] = true) (w : World) (_hE : EnvL w) :
  Calls Tryz.prog 30 #[.string s] w fun e w' => oneOk (tok s.data.toList) 0 0 e ∧ Fr [] w w' := by
 have hr : s.data.toList.drop 1 = s[1] :: s.data.toList.drop 2 := drop_cons s 1 hp2
 have ht : tok s.data.toList = .ok (3, runL (s.data.toList.drop 1), 0, 1 + (runL (s.data.toList.drop 1)).length) := by
  rw [list_head s hp, tok, if_neg (by rw [h1]; decide), if_neg (by rw [h1]; decide), if_pos ⟨h1, by rw [hr]; simpa using h2⟩]
  rfl
 rw [ht]
 have hsm : smallI ((s[0].toNat : Nat) : Int) = false := by rw [smallI_byte, h1]; decide
 have hg0 : greatI ((s[0].toNat : Nat) : Int) = false := by rw [greatI_byte, h1]; decide
 have e35 : ((s[0].toNat : Nat) : Int) = 35 := by rw [h1]; rfl
 have b35 : (((s[0].toNat : Nat) : Int) == 35) = true := by rw [h1]; rfl
 have hgr := greatI_byte s[1]
 rw [h2] at hgr
 have l1 : 1 < (s.size : Int) := by omega
 have wv : wrap32 ((s[0].toNat : Nat) : Int) = ((s[0].toNat : Nat) : Int) := by have := s[0].toNat_lt; unfold wrap32; omega
 have wv1 : wrap32 ((s[1].toNat : Nat) : Int) = ((s[1].toNat : Nat) : Int) := by have := s[1].toNat_lt; unfold wrap32; omega
 have hrl := runL_le (s.data.toList.drop 1)
 rw [drop_len] at hrl
 have cr := fun w => run_any (s.extract 1 s.size) (by rw [show (s.extract 1 s.size).size = s.size - 1 by simp]; omega) w
 rw [Lib.extract_to_end s 1] at cr
 have CR := fun w => Lib.hid (cr w)
 clear ht h1 h2 hr cr
 generalize runL (s.data.toList.drop 1) = X at *
 go_enter Tryz.func30, Tryz.ntmps30
 go_wp2_with fail
 have f0 : Fr [] w (w.alloc (.cells #[.int .i64 0, .int .i64 0, .string ⟨#[]⟩, .int .i64 0] 46)) := (Fr.refl [] w).alloc _
 have h0 : (w.alloc (.cells #[.int .i64 0, .int .i64 0, .string ⟨#[]⟩, .int .i64 0] 46)).heap[w.heap.size]? = some (.cells #[.int .i64 0, .int .i64 0, .string ⟨#[]⟩, .int .i64 0] 46 (0, 0)) := Array.getElem?_push_size
 generalize (w.alloc (.cells #[.int .i64 0, .int .i64 0, .string ⟨#[]⟩, .int .i64 0] 46)) = w1 at *
 have hBw : w.heap.size ≤ w.heap.size := Nat.le_refl _
 generalize hB : w.heap.size = B at h0 hBw ⊢
 refine (small_any _ _).mono ?_; rintro e x1 ⟨rfl, rfl⟩; go_wp2_with fail
 refine (great_any _ _).mono ?_; rintro e x1 ⟨rfl, rfl⟩; go_wp2_with fail
 refine (great_any _ _).mono ?_; rintro e x1 ⟨rfl, rfl⟩; go_wp2_with fail
 refine (CR _).out.mono ?_; rintro e x1 ⟨rfl, f1⟩
 have g := f1.keep h0 (fun h => by cases h)
 obtain ⟨c0, c1, c2, c3, z0, z1, z2, z3⟩ := cells4 g
 have ff := f0.trans f1
 have gz := set4 g (.int .i64 3) (.int .i64 0) (.string ⟨X.toArray⟩) (.int .i64 0)
 have fz := ff.store4 hB (.int .i64 3) (.int .i64 0) (.string ⟨X.toArray⟩) (.int .i64 0)
 clear h0 g
 go_wp2_with fail
 generalize (((x1.setCell ⟨B, 0, none⟩ (.int .i64 3)).setCell ⟨B, 1, none⟩ (.int .i64 0)).setCell ⟨B, 2, none⟩ (.string ⟨X.toArray⟩)).setCell ⟨B, 3, none⟩ (.int .i64 0) = Z at gz fz ⊢
 obtain ⟨d0, d1, d2, d3, _⟩ := cells4 gz
 refine bodyPost_ret (v := .tuple #[tokV 3 0 X 0, .int .i64 ((0 + (1 + X.length) : Nat) : Int), .int .i64 0]) ?_ rfl ?_
 ·simp [results, Tryz.f30, go_sem, tokV, d0, d1, d2, d3]
 ·exact ⟨rfl, fz⟩
theorem readE_cases (l : List UInt8) : readE l = 0 ∨ readE l = 2 ∨ readE l = 5 := by
 unfold readE; split
 ·split
  ·exact .inl rfl
  ·exact .inr (.inl rfl)
 ·exact .inr (.inr rfl)
set_option maxHeartbeats 1000000 in
set_option maxRecDepth 100000 in
theorem one_digit (s : ByteArray) (hs : s.size ≤ 1000000) (hp : 0 < s.size) (h1 : isDig s[0] = true) (w : World) (hE : EnvL w) :
  Calls Tryz.prog 30 #[.string s] w fun e w' => oneOk (tok s.data.toList) 0 0 e ∧ Fr [] w w' := by
 have hd := (isDig_iff s[0]).1 h1
 have n1 : smallB s[0] = false := by rw [← smallI_byte, Bool.eq_false_iff]; intro h; simp [smallI] at h; omega
 have n2 : greatB s[0] = false := by rw [← greatI_byte, Bool.eq_false_iff]; intro h; simp [greatI] at h; omega
 have n3 : s[0] ≠ 35 := by intro h; rw [h] at hd; exact absurd hd (by decide)
 have ht : tok s.data.toList = (if readE (runL s.data.toList) = 0 then .ok (4, [], readN (runL s.data.toList), (runL s.data.toList).length) else .error (if readE (runL s.data.toList) = 5 then 20 else readE (runL s.data.toList))) := by
  rw [list_head s hp, tok, if_neg (by simp [n1]), if_neg (by simp [n2]), if_neg (fun h => n3 h.1), if_pos h1]
 rw [ht]
 have hsm := smallI_byte s[0]
 have hgr := greatI_byte s[0]
 have hdg := digitI_byte s[0]
 rw [n1] at hsm
 rw [n2] at hgr
 rw [h1] at hdg
 have b35 : (((s[0].toNat : Nat) : Int) == 35) = false := by rw [beq_eq_false_iff_ne]; omega
 have e35 : ¬ ((s[0].toNat : Nat) : Int) = 35 := by omega
 have wv : wrap32 ((s[0].toNat : Nat) : Int) = ((s[0].toNat : Nat) : Int) := by have := s[0].toNat_lt; unfold wrap32; omega
 have hrl := runL_le s.data.toList
 rw [size_list] at hrl
 have cr := fun w => Lib.hid (run_any s (by omega) w)
 have cd := fun w hE => Lib.hid (Read_any ⟨(runL s.data.toList).toArray⟩ (by show (runL s.data.toList).length ≤ 281474976710656; omega) w hE)
 have hcase := readE_cases (runL s.data.toList)
 clear ht h1 n1 n2 n3 hd
 generalize runL s.data.toList = X at *
 rcases hcase with hc | hc | hc
 ·have hc2 : readE (ByteArray.mk X.toArray).data.toList = 0 := hc
  rw [if_pos hc]
  go_enter Tryz.func30, Tryz.ntmps30
  go_wp2_with fail
  have f0 : Fr [] w (w.alloc (.cells #[.int .i64 0, .int .i64 0, .string ⟨#[]⟩, .int .i64 0] 46)) := (Fr.refl [] w).alloc _
  have h0 : (w.alloc (.cells #[.int .i64 0, .int .i64 0, .string ⟨#[]⟩, .int .i64 0] 46)).heap[w.heap.size]? = some (.cells #[.int .i64 0, .int .i64 0, .string ⟨#[]⟩, .int .i64 0] 46 (0, 0)) := Array.getElem?_push_size
  generalize (w.alloc (.cells #[.int .i64 0, .int .i64 0, .string ⟨#[]⟩, .int .i64 0] 46)) = w1 at *
  have hBw : w.heap.size ≤ w.heap.size := Nat.le_refl _
  generalize hB : w.heap.size = B at h0 hBw ⊢
  refine (small_any _ _).mono ?_; rintro e x1 ⟨rfl, rfl⟩; go_wp2_with fail
  refine (great_any _ _).mono ?_; rintro e x1 ⟨rfl, rfl⟩; go_wp2_with fail
  refine (digit_any _ _).mono ?_; rintro e x1 ⟨rfl, rfl⟩; go_wp2_with fail
  refine (cr _).out.mono ?_; rintro e x1 ⟨rfl, f1⟩; go_wp2_with fail
  refine (cd _ ((hE.fr f0).fr f1).env).out.mono ?_; rintro e x2 ⟨rfl, f2⟩; rw [hc2]
  have en : readN (ByteArray.mk X.toArray).data.toList = readN X := rfl
  rw [en]
  have g := f2.keep (f1.keep h0 (fun h => by cases h)) (fun h => by cases h)
  obtain ⟨c0, c1, c2, c3, z0, z1, z2, z3⟩ := cells4 g
  have ff := (f0.trans f1).trans f2
  have gz := set4 g (.int .i64 4) (.int .i64 0) (.string ⟨([] : List UInt8).toArray⟩) (.int .i64 (readN X))
  have fz := ff.store4 hB (.int .i64 4) (.int .i64 0) (.string ⟨([] : List UInt8).toArray⟩) (.int .i64 (readN X))
  clear h0 g
  go_wp2_with fail
  generalize (((x2.setCell ⟨B, 0, none⟩ (.int .i64 4)).setCell ⟨B, 1, none⟩ (.int .i64 0)).setCell ⟨B, 2, none⟩ (.string ⟨([] : List UInt8).toArray⟩)).setCell ⟨B, 3, none⟩ (.int .i64 (readN X)) = Z at gz fz ⊢
  obtain ⟨d0, d1, d2, d3, _⟩ := cells4 gz
  refine bodyPost_ret (v := .tuple #[tokV 4 0 ([] : List UInt8) (readN X), .int .i64 ((0 + X.length : Nat) : Int), .int .i64 0]) ?_ rfl ?_
  ·simp [results, Tryz.f30, go_sem, tokV, d0, d1, d2, d3]
  ·exact ⟨rfl, fz⟩
 ·have hc2 : readE (ByteArray.mk X.toArray).data.toList = 2 := hc
  rw [if_neg (by omega), if_neg (by omega), hc]
  go_enter Tryz.func30, Tryz.ntmps30
  go_wp2_with fail
  have f0 : Fr [] w (w.alloc (.cells #[.int .i64 0, .int .i64 0, .string ⟨#[]⟩, .int .i64 0] 46)) := (Fr.refl [] w).alloc _
  have h0 : (w.alloc (.cells #[.int .i64 0, .int .i64 0, .string ⟨#[]⟩, .int .i64 0] 46)).heap[w.heap.size]? = some (.cells #[.int .i64 0, .int .i64 0, .string ⟨#[]⟩, .int .i64 0] 46 (0, 0)) := Array.getElem?_push_size
  generalize (w.alloc (.cells #[.int .i64 0, .int .i64 0, .string ⟨#[]⟩, .int .i64 0] 46)) = w1 at *
  have hBw : w.heap.size ≤ w.heap.size := Nat.le_refl _
  generalize hB : w.heap.size = B at h0 hBw ⊢
  refine (small_any _ _).mono ?_; rintro e x1 ⟨rfl, rfl⟩; go_wp2_with fail
  refine (great_any _ _).mono ?_; rintro e x1 ⟨rfl, rfl⟩; go_wp2_with fail
  refine (digit_any _ _).mono ?_; rintro e x1 ⟨rfl, rfl⟩; go_wp2_with fail
  refine (cr _).out.mono ?_; rintro e x1 ⟨rfl, f1⟩; go_wp2_with fail
  refine (cd _ ((hE.fr f0).fr f1).env).out.mono ?_; rintro e x2 ⟨rfl, f2⟩; rw [hc2]
  have en : readN (ByteArray.mk X.toArray).data.toList = readN X := rfl
  rw [en]
  have g := f2.keep (f1.keep h0 (fun h => by cases h)) (fun h => by cases h)
  obtain ⟨c0, c1, c2, c3, z0, z1, z2, z3⟩ := cells4 g
  have ff := (f0.trans f1).trans f2
  have gz := set4 g (.int .i64 4) (.int .i64 0) (.string ⟨([] : List UInt8).toArray⟩) (.int .i64 (readN X))
  have fz := ff.store4 hB (.int .i64 4) (.int .i64 0) (.string ⟨([] : List UInt8).toArray⟩) (.int .i64 (readN X))
  clear h0 g
  go_wp2_with fail
  generalize (((x2.setCell ⟨B, 0, none⟩ (.int .i64 4)).setCell ⟨B, 1, none⟩ (.int .i64 0)).setCell ⟨B, 2, none⟩ (.string ⟨([] : List UInt8).toArray⟩)).setCell ⟨B, 3, none⟩ (.int .i64 (readN X)) = Z at gz fz ⊢
  obtain ⟨d0, d1, d2, d3, _⟩ := cells4 gz
  refine bodyPost_ret (v := .tuple #[tokV 4 0 ([] : List UInt8) (readN X), .int .i64 ((0 + X.length : Nat) : Int), .int .i64 2]) ?_ rfl ?_
  ·simp [results, Tryz.f30, go_sem, tokV, d0, d1, d2, d3]
  ·exact ⟨oneOk_err rfl, fz⟩
 ·have hc2 : readE (ByteArray.mk X.toArray).data.toList = 5 := hc
  rw [if_neg (by omega), if_pos hc]
  go_enter Tryz.func30, Tryz.ntmps30
  go_wp2_with fail
  have f0 : Fr [] w (w.alloc (.cells #[.int .i64 0, .int .i64 0, .string ⟨#[]⟩, .int .i64 0] 46)) := (Fr.refl [] w).alloc _
  have h0 : (w.alloc (.cells #[.int .i64 0, .int .i64 0, .string ⟨#[]⟩, .int .i64 0] 46)).heap[w.heap.size]? = some (.cells #[.int .i64 0, .int .i64 0, .string ⟨#[]⟩, .int .i64 0] 46 (0, 0)) := Array.getElem?_push_size
  generalize (w.alloc (.cells #[.int .i64 0, .int .i64 0, .string ⟨#[]⟩, .int .i64 0] 46)) = w1 at *
  have hBw : w.heap.size ≤ w.heap.size := Nat.le_refl _
  generalize hB : w.heap.size = B at h0 hBw ⊢
  refine (small_any _ _).mono ?_; rintro e x1 ⟨rfl, rfl⟩; go_wp2_with fail
  refine (great_any _ _).mono ?_; rintro e x1 ⟨rfl, rfl⟩; go_wp2_with fail
  refine (digit_any _ _).mono ?_; rintro e x1 ⟨rfl, rfl⟩; go_wp2_with fail
  refine (cr _).out.mono ?_; rintro e x1 ⟨rfl, f1⟩; go_wp2_with fail
  refine (cd _ ((hE.fr f0).fr f1).env).out.mono ?_; rintro e x2 ⟨rfl, f2⟩; rw [hc2]
  have en : readN (ByteArray.mk X.toArray).data.toList = readN X := rfl
  rw [en]
  have g := f2.keep (f1.keep h0 (fun h => by cases h)) (fun h => by cases h)
  obtain ⟨c0, c1, c2, c3, z0, z1, z2, z3⟩ := cells4 g
  have ff := (f0.trans f1).trans f2
  have gz := set4 g (.int .i64 4) (.int .i64 0) (.string ⟨([] : List UInt8).toArray⟩) (.int .i64 (readN X))
  have fz := ff.store4 hB (.int .i64 4) (.int .i64 0) (.string ⟨([] : List UInt8).toArray⟩) (.int .i64 (readN X))
  clear h0 g
  go_wp2_with fail
  generalize (((x2.setCell ⟨B, 0, none⟩ (.int .i64 4)).setCell ⟨B, 1, none⟩ (.int .i64 0)).setCell ⟨B, 2, none⟩ (.string ⟨([] : List UInt8).toArray⟩)).setCell ⟨B, 3, none⟩ (.int .i64 (readN X)) = Z at gz fz ⊢
  obtain ⟨d0, d1, d2, d3, _⟩ := cells4 gz
  refine bodyPost_ret (v := .tuple #[tokV 4 0 ([] : List UInt8) (readN X), .int .i64 ((0 + X.length : Nat) : Int), .int .i64 20]) ?_ rfl ?_
  ·simp [results, Tryz.f30, go_sem, tokV, d0, d1, d2, d3]
  ·exact ⟨oneOk_err rfl, fz⟩
theorem tok_quote (l : List UInt8) (r : List UInt8) (h : l = 34 :: r) : tok l = match quoL l with
  | none => .error 20
  | some x => match unq x with
   | none => .error 20
   | some t => .ok (5, t, 0, x.length) := by
 subst h
 have e0 : quoL (34 :: r) = (qlen r).map fun k => (34 :: r).take (1 + k) := rfl
 rw [e0, tok, if_neg (by decide), if_neg (by decide), if_neg (fun x => absurd x.1 (by decide)), if_neg (by decide), if_pos rfl]
 cases e : qlen r with
 | none => rfl
 | some k =>
  have hk := q2_le r false k e
  simp only [Option.map_some]
  cases unq ((34 :: r).take (1 + k)) with
  | none => rfl
  | some t =>
   have : ((34 :: r).take (1 + k)).length = 1 + k := by rw [List.length_take, List.length_cons]; omega
   simp only [this]
theorem quoL_le {l x : List UInt8} (h : quoL l = some x) : x.length ≤ l.length := by
 unfold quoL at h
 cases e : qlen (l.drop 1) with
 | none => rw [e] at h; cases h
 | some k => rw [e] at h; cases h; rw [List.length_take]; omega
set_option maxHeartbeats 1000000 in
set_option maxRecDepth 100000 in
theorem one_quote (s : ByteArray) (hs : s.size ≤ 1000000) (hp : 0 < s.size) (h1 : s[0] = 34) (w : World) (_hE : EnvL w) :
  Calls Tryz.prog 30 #[.string s] w fun e w' => oneOk (tok s.data.toList) 0 0 e ∧ Fr [] w w' := by
 have hv : s[0].toNat = 34 := by rw [h1]; rfl
 have ht := tok_quote s.data.toList (s.data.toList.drop 1) ((list_head s hp).trans (by rw [h1]))
 rw [ht]
 have hsm : smallI ((s[0].toNat : Nat) : Int) = false := by rw [smallI_byte, h1]; decide
 have hgr : greatI ((s[0].toNat : Nat) : Int) = false := by rw [greatI_byte, h1]; decide
 have hdg : digitI ((s[0].toNat : Nat) : Int) = false := by rw [digitI_byte, h1]; decide
 have b35 : (((s[0].toNat : Nat) : Int) == 35) = false := by rw [beq_eq_false_iff_ne]; omega
 have e35 : ¬ ((s[0].toNat : Nat) : Int) = 35 := by omega
 have b34 : (((s[0].toNat : Nat) : Int) == 34) = true := by rw [beq_iff_eq]; omega
 have e34 : ((s[0].toNat : Nat) : Int) = 34 := by omega
 have wv : wrap32 ((s[0].toNat : Nat) : Int) = ((s[0].toNat : Nat) : Int) := by have := s[0].toNat_lt; unfold wrap32; omega
 have cq := fun w => Lib.hid (quoted_any s hs w)
 clear ht h1 hv
 cases hq : quoL s.data.toList with
 | none =>
  rw [hq] at cq
  simp only [Option.getD_none, Option.isSome_none] at cq ⊢
  go_enter Tryz.func30, Tryz.ntmps30
  go_wp2_with fail
  have f0 : Fr [] w (w.alloc (.cells #[.int .i64 0, .int .i64 0, .string ⟨#[]⟩, .int .i64 0] 46)) := (Fr.refl [] w).alloc _
  have h0 : (w.alloc (.cells #[.int .i64 0, .int .i64 0, .string ⟨#[]⟩, .int .i64 0] 46)).heap[w.heap.size]? = some (.cells #[.int .i64 0, .int .i64 0, .string ⟨#[]⟩, .int .i64 0] 46 (0, 0)) := Array.getElem?_push_size
  generalize (w.alloc (.cells #[.int .i64 0, .int .i64 0, .string ⟨#[]⟩, .int .i64 0] 46)) = w1 at *
  have hBw : w.heap.size ≤ w.heap.size := Nat.le_refl _
  generalize hB : w.heap.size = B at h0 hBw ⊢
  refine (small_any _ _).mono ?_; rintro e x1 ⟨rfl, rfl⟩; go_wp2_with fail
  refine (great_any _ _).mono ?_; rintro e x1 ⟨rfl, rfl⟩; go_wp2_with fail
  refine (digit_any _ _).mono ?_; rintro e x1 ⟨rfl, rfl⟩; go_wp2_with fail
  refine (cq _).out.mono ?_; rintro e x1 ⟨rfl, rfl⟩
  have g := h0
  obtain ⟨c0, c1, c2, c3, z0, z1, z2, z3⟩ := cells4 g
  have ff := f0
  have gz := set4 g (.int .i64 0) (.int .i64 0) (.string ⟨([] : List UInt8).toArray⟩) (.int .i64 0)
  have fz := ff.store4 hB (.int .i64 0) (.int .i64 0) (.string ⟨([] : List UInt8).toArray⟩) (.int .i64 0)
  clear h0 g
  go_wp2_with fail
  generalize (((w1.setCell ⟨B, 0, none⟩ (.int .i64 0)).setCell ⟨B, 1, none⟩ (.int .i64 0)).setCell ⟨B, 2, none⟩ (.string ⟨([] : List UInt8).toArray⟩)).setCell ⟨B, 3, none⟩ (.int .i64 0) = Z at gz fz ⊢
  obtain ⟨d0, d1, d2, d3, _⟩ := cells4 gz
  refine bodyPost_ret (v := .tuple #[tokV 0 0 ([] : List UInt8) 0, .int .i64 ((0 : Nat) : Int), .int .i64 20]) ?_ rfl ?_
  ·simp [results, Tryz.f30, go_sem, tokV, d0, d1, d2, d3]
  ·exact ⟨oneOk_err rfl, fz⟩
 | some X =>
  have hx := quoL_le hq
  rw [size_list] at hx
  rw [hq] at cq
  simp only [Option.getD_some, Option.isSome_some] at cq ⊢
  have cu := fun w => Lib.hid (Unquote_any ⟨X.toArray⟩ (by show X.length ≤ 16777216; omega) w)
  have hxa : (ByteArray.mk X.toArray).data.toList = X := rfl
  rw [hxa] at cu
  clear hq hxa
  cases hu : unq X with
  | none =>
   obtain ⟨u1, u2⟩ := unq_n hu
   rw [u1, u2] at cu
   clear hu u1 u2
   simp only
   go_enter Tryz.func30, Tryz.ntmps30
   go_wp2_with fail
   have f0 : Fr [] w (w.alloc (.cells #[.int .i64 0, .int .i64 0, .string ⟨#[]⟩, .int .i64 0] 46)) := (Fr.refl [] w).alloc _
   have h0 : (w.alloc (.cells #[.int .i64 0, .int .i64 0, .string ⟨#[]⟩, .int .i64 0] 46)).heap[w.heap.size]? = some (.cells #[.int .i64 0, .int .i64 0, .string ⟨#[]⟩, .int .i64 0] 46 (0, 0)) := Array.getElem?_push_size
   generalize (w.alloc (.cells #[.int .i64 0, .int .i64 0, .string ⟨#[]⟩, .int .i64 0] 46)) = w1 at *
   have hBw : w.heap.size ≤ w.heap.size := Nat.le_refl _
   generalize hB : w.heap.size = B at h0 hBw ⊢
   refine (small_any _ _).mono ?_; rintro e x1 ⟨rfl, rfl⟩; go_wp2_with fail
   refine (great_any _ _).mono ?_; rintro e x1 ⟨rfl, rfl⟩; go_wp2_with fail
   refine (digit_any _ _).mono ?_; rintro e x1 ⟨rfl, rfl⟩; go_wp2_with fail
   refine (cq _).out.mono ?_; rintro e x1 ⟨rfl, rfl⟩; go_wp2_with fail
   refine (cu _).out.mono ?_; rintro e x1 ⟨rfl, f1⟩
   have g := f1.keep h0 (fun h => by cases h)
   obtain ⟨c0, c1, c2, c3, z0, z1, z2, z3⟩ := cells4 g
   have ff := f0.trans f1
   have gz := set4 g (.int .i64 0) (.int .i64 0) (.string ⟨([] : List UInt8).toArray⟩) (.int .i64 0)
   have fz := ff.store4 hB (.int .i64 0) (.int .i64 0) (.string ⟨([] : List UInt8).toArray⟩) (.int .i64 0)
   clear h0 g
   go_wp2_with fail
   generalize (((x1.setCell ⟨B, 0, none⟩ (.int .i64 0)).setCell ⟨B, 1, none⟩ (.int .i64 0)).setCell ⟨B, 2, none⟩ (.string ⟨([] : List UInt8).toArray⟩)).setCell ⟨B, 3, none⟩ (.int .i64 0) = Z at gz fz ⊢
   obtain ⟨d0, d1, d2, d3, _⟩ := cells4 gz
   refine bodyPost_ret (v := .tuple #[tokV 0 0 ([] : List UInt8) 0, .int .i64 ((0 : Nat) : Int), .int .i64 20]) ?_ rfl ?_
   ·simp [results, Tryz.f30, go_sem, tokV, d0, d1, d2, d3]
   ·exact ⟨oneOk_err rfl, fz⟩
  | some U =>
   obtain ⟨u1, u2⟩ := unq_s hu
   rw [u1, u2] at cu
   clear hu u1 u2
   simp only
   go_enter Tryz.func30, Tryz.ntmps30
   go_wp2_with fail
   have f0 : Fr [] w (w.alloc (.cells #[.int .i64 0, .int .i64 0, .string ⟨#[]⟩, .int .i64 0] 46)) := (Fr.refl [] w).alloc _
   have h0 : (w.alloc (.cells #[.int .i64 0, .int .i64 0, .string ⟨#[]⟩, .int .i64 0] 46)).heap[w.heap.size]? = some (.cells #[.int .i64 0, .int .i64 0, .string ⟨#[]⟩, .int .i64 0] 46 (0, 0)) := Array.getElem?_push_size
   generalize (w.alloc (.cells #[.int .i64 0, .int .i64 0, .string ⟨#[]⟩, .int .i64 0] 46)) = w1 at *
   have hBw : w.heap.size ≤ w.heap.size := Nat.le_refl _
   generalize hB : w.heap.size = B at h0 hBw ⊢
   refine (small_any _ _).mono ?_; rintro e x1 ⟨rfl, rfl⟩; go_wp2_with fail
   refine (great_any _ _).mono ?_; rintro e x1 ⟨rfl, rfl⟩; go_wp2_with fail
   refine (digit_any _ _).mono ?_; rintro e x1 ⟨rfl, rfl⟩; go_wp2_with fail
   refine (cq _).out.mono ?_; rintro e x1 ⟨rfl, rfl⟩; go_wp2_with fail
   refine (cu _).out.mono ?_; rintro e x1 ⟨rfl, f1⟩
   have g := f1.keep h0 (fun h => by cases h)
   obtain ⟨c0, c1, c2, c3, z0, z1, z2, z3⟩ := cells4 g
   have ff := f0.trans f1
   have gz := set4 g (.int .i64 5) (.int .i64 0) (.string ⟨U.toArray⟩) (.int .i64 0)
   have fz := ff.store4 hB (.int .i64 5) (.int .i64 0) (.string ⟨U.toArray⟩) (.int .i64 0)
   clear h0 g
   go_wp2_with fail
   generalize (((x1.setCell ⟨B, 0, none⟩ (.int .i64 5)).setCell ⟨B, 1, none⟩ (.int .i64 0)).setCell ⟨B, 2, none⟩ (.string ⟨U.toArray⟩)).setCell ⟨B, 3, none⟩ (.int .i64 0) = Z at gz fz ⊢
   obtain ⟨d0, d1, d2, d3, _⟩ := cells4 gz
   refine bodyPost_ret (v := .tuple #[tokV 5 0 U 0, .int .i64 ((0 + X.length : Nat) : Int), .int .i64 0]) ?_ rfl ?_
   ·simp [results, Tryz.f30, go_sem, tokV, d0, d1, d2, d3]
   ·exact ⟨rfl, fz⟩
theorem signOf_none {l : List UInt8} (h : signsL.find? (fun x => x.isPrefixOf l) = none) : signOf l = [] := by unfold signOf pfxB; rw [h]; rfl
theorem signOf_some {l x : List UInt8} (h : signsL.find? (fun x => x.isPrefixOf l) = some x) : signOf l = x := by unfold signOf pfxB; rw [h]; rfl
set_option maxHeartbeats 1000000 in
set_option maxRecDepth 100000 in
theorem one_sign (s : ByteArray) (hs : s.size ≤ 1000000) (hp : 0 < s.size) (h1 : smallB s[0] = false) (h2 : greatB s[0] = false) (h3 : s[0] ≠ 35) (h4 : isDig s[0] = false) (h5 : s[0] ≠ 34) (w : World) (_hE : EnvL w) :
  Calls Tryz.prog 30 #[.string s] w fun e w' => oneOk (tok s.data.toList) 0 0 e ∧ Fr [] w w' := by
 have ht : tok s.data.toList = match signsL.find? (fun x => x.isPrefixOf s.data.toList) with
   | none => .error 20
   | some x => .ok (7, x, 0, x.length) := by
  conv => lhs; rw [list_head s hp]
  rw [tok, if_neg (by simp [h1]), if_neg (by simp [h2]), if_neg ?n3, if_neg (by simp [h4]), if_neg h5, ← list_head s hp]
  case n3 =>
   rintro ⟨x1, x2⟩
   exact h3 x1
  cases signsL.find? (fun x => x.isPrefixOf s.data.toList) with
  | none => rfl
  | some x => rfl
 rw [ht]
 have hsm := smallI_byte s[0]
 have hgr := greatI_byte s[0]
 have hdg := digitI_byte s[0]
 rw [h1] at hsm
 rw [h2] at hgr
 rw [h4] at hdg
 have e34 : ¬ ((s[0].toNat : Nat) : Int) = 34 := by intro h; apply h5; apply UInt8.toNat_inj.1; have h9 : (34 : UInt8).toNat = 34 := rfl; omega
 have b34 : (((s[0].toNat : Nat) : Int) == 34) = false := by rw [beq_eq_false_iff_ne]; exact e34
 have wv : wrap32 ((s[0].toNat : Nat) : Int) = ((s[0].toNat : Nat) : Int) := by have := s[0].toNat_lt; unfold wrap32; omega
 have cs := fun w => Lib.hid (sign_any s hs w)
 have b35 : (((s[0].toNat : Nat) : Int) == 35) = false := by rw [beq_eq_false_iff_ne]; intro h; apply h3; apply UInt8.toNat_inj.1; have h9 : (35 : UInt8).toNat = 35 := rfl; omega
 have e35 : ¬ ((s[0].toNat : Nat) : Int) = 35 := by rw [beq_eq_false_iff_ne] at b35; exact b35
 clear h3
 clear ht h1 h2 h4 h5
 cases hq : signsL.find? (fun x => x.isPrefixOf s.data.toList) with
 | none =>
  rw [signOf_none hq] at cs
  clear hq
  simp only
  go_enter Tryz.func30, Tryz.ntmps30
  go_wp2_with fail
  have f0 : Fr [] w (w.alloc (.cells #[.int .i64 0, .int .i64 0, .string ⟨#[]⟩, .int .i64 0] 46)) := (Fr.refl [] w).alloc _
  have h0 : (w.alloc (.cells #[.int .i64 0, .int .i64 0, .string ⟨#[]⟩, .int .i64 0] 46)).heap[w.heap.size]? = some (.cells #[.int .i64 0, .int .i64 0, .string ⟨#[]⟩, .int .i64 0] 46 (0, 0)) := Array.getElem?_push_size
  generalize (w.alloc (.cells #[.int .i64 0, .int .i64 0, .string ⟨#[]⟩, .int .i64 0] 46)) = w1 at *
  have hBw : w.heap.size ≤ w.heap.size := Nat.le_refl _
  generalize hB : w.heap.size = B at h0 hBw ⊢
  refine (small_any _ _).mono ?_; rintro e x1 ⟨rfl, rfl⟩; go_wp2_with fail
  refine (great_any _ _).mono ?_; rintro e x1 ⟨rfl, rfl⟩; go_wp2_with fail
  refine (digit_any _ _).mono ?_; rintro e x1 ⟨rfl, rfl⟩; go_wp2_with fail
  refine (cs _).out.mono ?_; rintro e x1 ⟨rfl, f1'⟩
  have f1 := Fr.of_below f1'
  clear f1'
  have g := f1.keep h0 (fun h => by cases h)
  obtain ⟨c0, c1, c2, c3, z0, z1, z2, z3⟩ := cells4 g
  have ff := f0.trans f1
  have gz := set4 g (.int .i64 0) (.int .i64 0) (.string ⟨([] : List UInt8).toArray⟩) (.int .i64 0)
  have fz := ff.store4 hB (.int .i64 0) (.int .i64 0) (.string ⟨([] : List UInt8).toArray⟩) (.int .i64 0)
  clear h0 g
  go_wp2_with fail
  generalize (((x1.setCell ⟨B, 0, none⟩ (.int .i64 0)).setCell ⟨B, 1, none⟩ (.int .i64 0)).setCell ⟨B, 2, none⟩ (.string ⟨([] : List UInt8).toArray⟩)).setCell ⟨B, 3, none⟩ (.int .i64 0) = Z at gz fz ⊢
  obtain ⟨d0, d1, d2, d3, _⟩ := cells4 gz
  refine bodyPost_ret (v := .tuple #[tokV 0 0 ([] : List UInt8) 0, .int .i64 ((0 : Nat) : Int), .int .i64 20]) ?_ rfl ?_
  ·simp [results, Tryz.f30, go_sem, tokV, d0, d1, d2, d3]
  ·exact ⟨oneOk_err rfl, fz⟩
 | some X =>
  have hx : ¬ X = [] := by
   have := (signs_facts X (List.mem_of_find?_eq_some hq)).1
   intro h; subst h; simp at this
  have hx0 : X.isEmpty = false := by cases X with | nil => exact absurd rfl hx | cons _ _ => rfl
  have hx2 : (ByteArray.mk X.toArray).toList = X := by rw [ByteArray.toList_eq]
  have e1 : ¬ (ByteArray.mk X.toArray).toList = [] := by rw [hx2]; exact hx
  have e0 : (ByteArray.mk X.toArray).toList.isEmpty = false := by rw [hx2]; exact hx0
  rw [signOf_some hq] at cs
  clear hq hx2
  simp only
  go_enter Tryz.func30, Tryz.ntmps30
  go_wp2_with fail
  have f0 : Fr [] w (w.alloc (.cells #[.int .i64 0, .int .i64 0, .string ⟨#[]⟩, .int .i64 0] 46)) := (Fr.refl [] w).alloc _
  have h0 : (w.alloc (.cells #[.int .i64 0, .int .i64 0, .string ⟨#[]⟩, .int .i64 0] 46)).heap[w.heap.size]? = some (.cells #[.int .i64 0, .int .i64 0, .string ⟨#[]⟩, .int .i64 0] 46 (0, 0)) := Array.getElem?_push_size
  generalize (w.alloc (.cells #[.int .i64 0, .int .i64 0, .string ⟨#[]⟩, .int .i64 0] 46)) = w1 at *
  have hBw : w.heap.size ≤ w.heap.size := Nat.le_refl _
  generalize hB : w.heap.size = B at h0 hBw ⊢
  refine (small_any _ _).mono ?_; rintro e x1 ⟨rfl, rfl⟩; go_wp2_with fail
  refine (great_any _ _).mono ?_; rintro e x1 ⟨rfl, rfl⟩; go_wp2_with fail
  refine (digit_any _ _).mono ?_; rintro e x1 ⟨rfl, rfl⟩; go_wp2_with fail
  refine (cs _).out.mono ?_; rintro e x1 ⟨rfl, f1'⟩
  have f1 := Fr.of_below f1'
  clear f1'
  have g := f1.keep h0 (fun h => by cases h)
  obtain ⟨c0, c1, c2, c3, z0, z1, z2, z3⟩ := cells4 g
  have ff := f0.trans f1
  have gz := set4 g (.int .i64 7) (.int .i64 0) (.string ⟨X.toArray⟩) (.int .i64 0)
  have fz := ff.store4 hB (.int .i64 7) (.int .i64 0) (.string ⟨X.toArray⟩) (.int .i64 0)
  clear h0 g
  go_wp2_with fail
  generalize (((x1.setCell ⟨B, 0, none⟩ (.int .i64 7)).setCell ⟨B, 1, none⟩ (.int .i64 0)).setCell ⟨B, 2, none⟩ (.string ⟨X.toArray⟩)).setCell ⟨B, 3, none⟩ (.int .i64 0) = Z at gz fz ⊢
  obtain ⟨d0, d1, d2, d3, _⟩ := cells4 gz
  refine bodyPost_ret (v := .tuple #[tokV 7 0 X 0, .int .i64 ((0 + X.length : Nat) : Int), .int .i64 0]) ?_ rfl ?_
  ·simp [results, Tryz.f30, go_sem, tokV, d0, d1, d2, d3]
  ·exact ⟨rfl, fz⟩
set_option maxHeartbeats 1000000 in
set_option maxRecDepth 100000 in
theorem one_hash1 (s : ByteArray) (hs : s.size ≤ 1000000) (hp : 0 < s.size) (h1 : smallB s[0] = false) (h2 : greatB s[0] = false) (h3 : s[0] = 35) (h6 : s.size ≤ 1) (h4 : isDig s[0] = false) (h5 : s[0] ≠ 34) (w : World) (_hE : EnvL w) :
  Calls Tryz.prog 30 #[.string s] w fun e w' => oneOk (tok s.data.toList) 0 0 e ∧ Fr [] w w' := by
 have ht : tok s.data.toList = match signsL.find? (fun x => x.isPrefixOf s.data.toList) with
   | none => .error 20
   | some x => .ok (7, x, 0, x.length) := by
  conv => lhs; rw [list_head s hp]
  rw [tok, if_neg (by simp [h1]), if_neg (by simp [h2]), if_neg ?n3, if_neg (by simp [h4]), if_neg h5, ← list_head s hp]
  case n3 =>
   rintro ⟨x1, x2⟩
   rw [List.drop_of_length_le (by rw [size_list]; exact h6)] at x2; simp at x2
  cases signsL.find? (fun x => x.isPrefixOf s.data.toList) with
  | none => rfl
  | some x => rfl
 rw [ht]
 have hsm := smallI_byte s[0]
 have hgr := greatI_byte s[0]
 have hdg := digitI_byte s[0]
 rw [h1] at hsm
 rw [h2] at hgr
 rw [h4] at hdg
 have e34 : ¬ ((s[0].toNat : Nat) : Int) = 34 := by intro h; apply h5; apply UInt8.toNat_inj.1; have h9 : (34 : UInt8).toNat = 34 := rfl; omega
 have b34 : (((s[0].toNat : Nat) : Int) == 34) = false := by rw [beq_eq_false_iff_ne]; exact e34
 have wv : wrap32 ((s[0].toNat : Nat) : Int) = ((s[0].toNat : Nat) : Int) := by have := s[0].toNat_lt; unfold wrap32; omega
 have cs := fun w => Lib.hid (sign_any s hs w)
 have b35 : (((s[0].toNat : Nat) : Int) == 35) = true := by rw [h3]; rfl
 have e35 : ((s[0].toNat : Nat) : Int) = 35 := by rw [h3]; rfl
 have l1 : ¬ 1 < (s.size : Int) := by omega
 have l2 : decide (1 < (s.size : Int)) = false := by simpa using l1
 clear h3
 clear ht h1 h2 h4 h5
 cases hq : signsL.find? (fun x => x.isPrefixOf s.data.toList) with
 | none =>
  rw [signOf_none hq] at cs
  clear hq
  simp only
  go_enter Tryz.func30, Tryz.ntmps30
  go_wp2_with fail
  have f0 : Fr [] w (w.alloc (.cells #[.int .i64 0, .int .i64 0, .string ⟨#[]⟩, .int .i64 0] 46)) := (Fr.refl [] w).alloc _
  have h0 : (w.alloc (.cells #[.int .i64 0, .int .i64 0, .string ⟨#[]⟩, .int .i64 0] 46)).heap[w.heap.size]? = some (.cells #[.int .i64 0, .int .i64 0, .string ⟨#[]⟩, .int .i64 0] 46 (0, 0)) := Array.getElem?_push_size
  generalize (w.alloc (.cells #[.int .i64 0, .int .i64 0, .string ⟨#[]⟩, .int .i64 0] 46)) = w1 at *
  have hBw : w.heap.size ≤ w.heap.size := Nat.le_refl _
  generalize hB : w.heap.size = B at h0 hBw ⊢
  refine (small_any _ _).mono ?_; rintro e x1 ⟨rfl, rfl⟩; go_wp2_with fail
  refine (great_any _ _).mono ?_; rintro e x1 ⟨rfl, rfl⟩; go_wp2_with fail
  refine (digit_any _ _).mono ?_; rintro e x1 ⟨rfl, rfl⟩; go_wp2_with fail
  refine (cs _).out.mono ?_; rintro e x1 ⟨rfl, f1'⟩
  have f1 := Fr.of_below f1'
  clear f1'
  have g := f1.keep h0 (fun h => by cases h)
  obtain ⟨c0, c1, c2, c3, z0, z1, z2, z3⟩ := cells4 g
  have ff := f0.trans f1
  have gz := set4 g (.int .i64 0) (.int .i64 0) (.string ⟨([] : List UInt8).toArray⟩) (.int .i64 0)
  have fz := ff.store4 hB (.int .i64 0) (.int .i64 0) (.string ⟨([] : List UInt8).toArray⟩) (.int .i64 0)
  clear h0 g
  go_wp2_with fail
  generalize (((x1.setCell ⟨B, 0, none⟩ (.int .i64 0)).setCell ⟨B, 1, none⟩ (.int .i64 0)).setCell ⟨B, 2, none⟩ (.string ⟨([] : List UInt8).toArray⟩)).setCell ⟨B, 3, none⟩ (.int .i64 0) = Z at gz fz ⊢
  obtain ⟨d0, d1, d2, d3, _⟩ := cells4 gz
  refine bodyPost_ret (v := .tuple #[tokV 0 0 ([] : List UInt8) 0, .int .i64 ((0 : Nat) : Int), .int .i64 20]) ?_ rfl ?_
  ·simp [results, Tryz.f30, go_sem, tokV, d0, d1, d2, d3]
  ·exact ⟨oneOk_err rfl, fz⟩
 | some X =>
  have hx : ¬ X = [] := by
   have := (signs_facts X (List.mem_of_find?_eq_some hq)).1
   intro h; subst h; simp at this
  have hx0 : X.isEmpty = false := by cases X with | nil => exact absurd rfl hx | cons _ _ => rfl
  have hx2 : (ByteArray.mk X.toArray).toList = X := by rw [ByteArray.toList_eq]
  have e1 : ¬ (ByteArray.mk X.toArray).toList = [] := by rw [hx2]; exact hx
  have e0 : (ByteArray.mk X.toArray).toList.isEmpty = false := by rw [hx2]; exact hx0
  rw [signOf_some hq] at cs
  clear hq hx2
  simp only
  go_enter Tryz.func30, Tryz.ntmps30
  go_wp2_with fail
  have f0 : Fr [] w (w.alloc (.cells #[.int .i64 0, .int .i64 0, .string ⟨#[]⟩, .int .i64 0] 46)) := (Fr.refl [] w).alloc _
  have h0 : (w.alloc (.cells #[.int .i64 0, .int .i64 0, .string ⟨#[]⟩, .int .i64 0] 46)).heap[w.heap.size]? = some (.cells #[.int .i64 0, .int .i64 0, .string ⟨#[]⟩, .int .i64 0] 46 (0, 0)) := Array.getElem?_push_size
  generalize (w.alloc (.cells #[.int .i64 0, .int .i64 0, .string ⟨#[]⟩, .int .i64 0] 46)) = w1 at *
  have hBw : w.heap.size ≤ w.heap.size := Nat.le_refl _
  generalize hB : w.heap.size = B at h0 hBw ⊢
  refine (small_any _ _).mono ?_; rintro e x1 ⟨rfl, rfl⟩; go_wp2_with fail
  refine (great_any _ _).mono ?_; rintro e x1 ⟨rfl, rfl⟩; go_wp2_with fail
  refine (digit_any _ _).mono ?_; rintro e x1 ⟨rfl, rfl⟩; go_wp2_with fail
  refine (cs _).out.mono ?_; rintro e x1 ⟨rfl, f1'⟩
  have f1 := Fr.of_below f1'
  clear f1'
  have g := f1.keep h0 (fun h => by cases h)
  obtain ⟨c0, c1, c2, c3, z0, z1, z2, z3⟩ := cells4 g
  have ff := f0.trans f1
  have gz := set4 g (.int .i64 7) (.int .i64 0) (.string ⟨X.toArray⟩) (.int .i64 0)
  have fz := ff.store4 hB (.int .i64 7) (.int .i64 0) (.string ⟨X.toArray⟩) (.int .i64 0)
  clear h0 g
  go_wp2_with fail
  generalize (((x1.setCell ⟨B, 0, none⟩ (.int .i64 7)).setCell ⟨B, 1, none⟩ (.int .i64 0)).setCell ⟨B, 2, none⟩ (.string ⟨X.toArray⟩)).setCell ⟨B, 3, none⟩ (.int .i64 0) = Z at gz fz ⊢
  obtain ⟨d0, d1, d2, d3, _⟩ := cells4 gz
  refine bodyPost_ret (v := .tuple #[tokV 7 0 X 0, .int .i64 ((0 + X.length : Nat) : Int), .int .i64 0]) ?_ rfl ?_
  ·simp [results, Tryz.f30, go_sem, tokV, d0, d1, d2, d3]
  ·exact ⟨rfl, fz⟩
set_option maxHeartbeats 1000000 in
set_option maxRecDepth 100000 in
theorem one_hash2 (s : ByteArray) (hs : s.size ≤ 1000000) (hp : 0 < s.size) (h1 : smallB s[0] = false) (h2 : greatB s[0] = false) (h3 : s[0] = 35) (h6 : 1 < s.size) (h7 : greatB s[1] = false) (h4 : isDig s[0] = false) (h5 : s[0] ≠ 34) (w : World) (_hE : EnvL w) :
  Calls Tryz.prog 30 #[.string s] w fun e w' => oneOk (tok s.data.toList) 0 0 e ∧ Fr [] w w' := by
 have ht : tok s.data.toList = match signsL.find? (fun x => x.isPrefixOf s.data.toList) with
   | none => .error 20
   | some x => .ok (7, x, 0, x.length) := by
  conv => lhs; rw [list_head s hp]
  rw [tok, if_neg (by simp [h1]), if_neg (by simp [h2]), if_neg ?n3, if_neg (by simp [h4]), if_neg h5, ← list_head s hp]
  case n3 =>
   rintro ⟨x1, x2⟩
   rw [drop_cons s 1 h6] at x2; simp [h7] at x2
  cases signsL.find? (fun x => x.isPrefixOf s.data.toList) with
  | none => rfl
  | some x => rfl
 rw [ht]
 have hsm := smallI_byte s[0]
 have hgr := greatI_byte s[0]
 have hdg := digitI_byte s[0]
 rw [h1] at hsm
 rw [h2] at hgr
 rw [h4] at hdg
 have e34 : ¬ ((s[0].toNat : Nat) : Int) = 34 := by intro h; apply h5; apply UInt8.toNat_inj.1; have h9 : (34 : UInt8).toNat = 34 := rfl; omega
 have b34 : (((s[0].toNat : Nat) : Int) == 34) = false := by rw [beq_eq_false_iff_ne]; exact e34
 have wv : wrap32 ((s[0].toNat : Nat) : Int) = ((s[0].toNat : Nat) : Int) := by have := s[0].toNat_lt; unfold wrap32; omega
 have cs := fun w => Lib.hid (sign_any s hs w)
 have b35 : (((s[0].toNat : Nat) : Int) == 35) = true := by rw [h3]; rfl
 have e35 : ((s[0].toNat : Nat) : Int) = 35 := by rw [h3]; rfl
 have l1 : 1 < (s.size : Int) := by omega
 have hg1 := greatI_byte s[1]
 rw [h7] at hg1
 have wv1 : wrap32 ((s[1].toNat : Nat) : Int) = ((s[1].toNat : Nat) : Int) := by have := s[1].toNat_lt; unfold wrap32; omega
 clear h3 h7
 clear ht h1 h2 h4 h5
 cases hq : signsL.find? (fun x => x.isPrefixOf s.data.toList) with
 | none =>
  rw [signOf_none hq] at cs
  clear hq
  simp only
  go_enter Tryz.func30, Tryz.ntmps30
  go_wp2_with fail
  have f0 : Fr [] w (w.alloc (.cells #[.int .i64 0, .int .i64 0, .string ⟨#[]⟩, .int .i64 0] 46)) := (Fr.refl [] w).alloc _
  have h0 : (w.alloc (.cells #[.int .i64 0, .int .i64 0, .string ⟨#[]⟩, .int .i64 0] 46)).heap[w.heap.size]? = some (.cells #[.int .i64 0, .int .i64 0, .string ⟨#[]⟩, .int .i64 0] 46 (0, 0)) := Array.getElem?_push_size
  generalize (w.alloc (.cells #[.int .i64 0, .int .i64 0, .string ⟨#[]⟩, .int .i64 0] 46)) = w1 at *
  have hBw : w.heap.size ≤ w.heap.size := Nat.le_refl _
  generalize hB : w.heap.size = B at h0 hBw ⊢
  refine (small_any _ _).mono ?_; rintro e x1 ⟨rfl, rfl⟩; go_wp2_with fail
  refine (great_any _ _).mono ?_; rintro e x1 ⟨rfl, rfl⟩; go_wp2_with fail
  refine (great_any _ _).mono ?_; rintro e x1 ⟨rfl, rfl⟩; go_wp2_with fail
  refine (digit_any _ _).mono ?_; rintro e x1 ⟨rfl, rfl⟩; go_wp2_with fail
  refine (cs _).out.mono ?_; rintro e x1 ⟨rfl, f1'⟩
  have f1 := Fr.of_below f1'
  clear f1'
  have g := f1.keep h0 (fun h => by cases h)
  obtain ⟨c0, c1, c2, c3, z0, z1, z2, z3⟩ := cells4 g
  have ff := f0.trans f1
  have gz := set4 g (.int .i64 0) (.int .i64 0) (.string ⟨([] : List UInt8).toArray⟩) (.int .i64 0)
  have fz := ff.store4 hB (.int .i64 0) (.int .i64 0) (.string ⟨([] : List UInt8).toArray⟩) (.int .i64 0)
  clear h0 g
  go_wp2_with fail
  generalize (((x1.setCell ⟨B, 0, none⟩ (.int .i64 0)).setCell ⟨B, 1, none⟩ (.int .i64 0)).setCell ⟨B, 2, none⟩ (.string ⟨([] : List UInt8).toArray⟩)).setCell ⟨B, 3, none⟩ (.int .i64 0) = Z at gz fz ⊢
  obtain ⟨d0, d1, d2, d3, _⟩ := cells4 gz
  refine bodyPost_ret (v := .tuple #[tokV 0 0 ([] : List UInt8) 0, .int .i64 ((0 : Nat) : Int), .int .i64 20]) ?_ rfl ?_
  ·simp [results, Tryz.f30, go_sem, tokV, d0, d1, d2, d3]
  ·exact ⟨oneOk_err rfl, fz⟩
 | some X =>
  have hx : ¬ X = [] := by
   have := (signs_facts X (List.mem_of_find?_eq_some hq)).1
   intro h; subst h; simp at this
  have hx0 : X.isEmpty = false := by cases X with | nil => exact absurd rfl hx | cons _ _ => rfl
  have hx2 : (ByteArray.mk X.toArray).toList = X := by rw [ByteArray.toList_eq]
  have e1 : ¬ (ByteArray.mk X.toArray).toList = [] := by rw [hx2]; exact hx
  have e0 : (ByteArray.mk X.toArray).toList.isEmpty = false := by rw [hx2]; exact hx0
  rw [signOf_some hq] at cs
  clear hq hx2
  simp only
  go_enter Tryz.func30, Tryz.ntmps30
  go_wp2_with fail
  have f0 : Fr [] w (w.alloc (.cells #[.int .i64 0, .int .i64 0, .string ⟨#[]⟩, .int .i64 0] 46)) := (Fr.refl [] w).alloc _
  have h0 : (w.alloc (.cells #[.int .i64 0, .int .i64 0, .string ⟨#[]⟩, .int .i64 0] 46)).heap[w.heap.size]? = some (.cells #[.int .i64 0, .int .i64 0, .string ⟨#[]⟩, .int .i64 0] 46 (0, 0)) := Array.getElem?_push_size
  generalize (w.alloc (.cells #[.int .i64 0, .int .i64 0, .string ⟨#[]⟩, .int .i64 0] 46)) = w1 at *
  have hBw : w.heap.size ≤ w.heap.size := Nat.le_refl _
  generalize hB : w.heap.size = B at h0 hBw ⊢
  refine (small_any _ _).mono ?_; rintro e x1 ⟨rfl, rfl⟩; go_wp2_with fail
  refine (great_any _ _).mono ?_; rintro e x1 ⟨rfl, rfl⟩; go_wp2_with fail
  refine (great_any _ _).mono ?_; rintro e x1 ⟨rfl, rfl⟩; go_wp2_with fail
  refine (digit_any _ _).mono ?_; rintro e x1 ⟨rfl, rfl⟩; go_wp2_with fail
  refine (cs _).out.mono ?_; rintro e x1 ⟨rfl, f1'⟩
  have f1 := Fr.of_below f1'
  clear f1'
  have g := f1.keep h0 (fun h => by cases h)
  obtain ⟨c0, c1, c2, c3, z0, z1, z2, z3⟩ := cells4 g
  have ff := f0.trans f1
  have gz := set4 g (.int .i64 7) (.int .i64 0) (.string ⟨X.toArray⟩) (.int .i64 0)
  have fz := ff.store4 hB (.int .i64 7) (.int .i64 0) (.string ⟨X.toArray⟩) (.int .i64 0)
  clear h0 g
  go_wp2_with fail
  generalize (((x1.setCell ⟨B, 0, none⟩ (.int .i64 7)).setCell ⟨B, 1, none⟩ (.int .i64 0)).setCell ⟨B, 2, none⟩ (.string ⟨X.toArray⟩)).setCell ⟨B, 3, none⟩ (.int .i64 0) = Z at gz fz ⊢
  obtain ⟨d0, d1, d2, d3, _⟩ := cells4 gz
  refine bodyPost_ret (v := .tuple #[tokV 7 0 X 0, .int .i64 ((0 + X.length : Nat) : Int), .int .i64 0]) ?_ rfl ?_
  ·simp [results, Tryz.f30, go_sem, tokV, d0, d1, d2, d3]
  ·exact ⟨rfl, fz⟩
theorem one_any (s : ByteArray) (hs : s.size ≤ 1000000) (hp : 0 < s.size) (w : World) (hE : EnvL w) :
  Calls Tryz.prog 30 #[.string s] w fun e w' => oneOk (tok s.data.toList) 0 0 e ∧ Fr [] w w' := by
 cases h1 : smallB s[0] with
 | true => exact one_small s hs hp h1 w hE
 | false => cases h2 : greatB s[0] with
  | true => exact one_great s hs hp h1 h2 w hE
  | false =>
   by_cases h3 : s[0] = 35
   ·by_cases h6 : 1 < s.size
    ·cases h7 : greatB s[1] with
     | true => exact one_tag s hs hp h3 h6 h7 w hE
     | false => exact one_hash2 s hs hp h1 h2 h3 h6 h7 (by rw [h3]; decide) (by rw [h3]; decide) w hE
    ·exact one_hash1 s hs hp h1 h2 h3 (by omega) (by rw [h3]; decide) (by rw [h3]; decide) w hE
   ·cases h4 : isDig s[0] with
    | true => exact one_digit s hs hp h4 w hE
    | false =>
     by_cases h5 : s[0] = 34
     ·exact one_quote s hs hp h5 w hE
     ·exact one_sign s hs hp h1 h2 h3 h4 h5 w hE
end Go.Proofs.YtpjkfeehgookkaaGreatDoor
namespace Go.Proofs.YtpjkfeehgookkaaGreatDoor
open Go.RowKit
theorem byte_ne {c : UInt8} {n : Nat} (hn : n < 256) (h : c ≠ UInt8.ofNat n) : (((c.toNat : Nat) : Int) == (n : Int)) = false := by
 rw [beq_eq_false_iff_ne]
 intro h2
 apply h
 apply UInt8.toNat_inj.1
 rw [UInt8.toNat_ofNat']
 omega

end Go.Proofs.YtpjkfeehgookkaaGreatDoor
namespace Go.Proofs.YtpjkfeehgookkaaGreatDoor
open Go.RowKit
def tokCells (t : Tok) : List Value := [.int .i64 t.k, .int .i64 t.at', .string ⟨t.text.toArray⟩, .int .i64 t.n]
def toksC (ts : List Tok) : List Value := ts.flatMap tokCells
theorem toksC_snoc (ts : List Tok) (t : Tok) : toksC (ts ++ [t]) = toksC ts ++ tokCells t := by simp [toksC]
def OwnT (B : Nat) (v : Value) (ts : List Tok) (w : World) : Prop := w.ownsRow 0 46 4 v ts.length (toksC ts) ∧ ∀ g, v.ownBlock = some g → B ≤ g
theorem OwnT.fr {B : Nat} {v : Value} {ts : List Tok} {w w' : World} (h : OwnT B v ts w) (hf : Fr [] w w') : OwnT B v ts w' := ⟨ownsRow_fr h.1 hf (fun _ _ h => by cases h), h.2⟩
theorem OwnT.nil_ (B : Nat) (w : World) : OwnT B (.slice none 0 0) [] w := ⟨⟨by simp [toksC], .inl ⟨rfl, rfl⟩⟩, fun g hg => by simp [Value.ownBlock] at hg⟩
theorem OwnT.none (w : World) : OwnT w.heap.size (.slice (some ⟨w.heap.size, 0, none⟩) 0 0) [] (w.alloc (.cells #[] 46)) :=
 ⟨World.ownsRow_lit w #[] 0 (Nat.zero_le _) (by decide) rfl, fun g hg => by simp [Value.ownBlock] at hg; omega⟩
theorem infoTok : (Tryz.prog.info? 46).map (fun i => (i.zero, i.size, i.bytes)) = some (some (.agg #[.int .i64 0, .int .i64 0, .string ⟨#[]⟩, .int .i64 0]), 4, 40) := by kernel_rfl
theorem tok_news (w : World) (b : Nat) (a0 a1 a2 a3 : Value) (T : TypeId) (h : w.heap[b]? = some (.cells #[a0, a1, a2, a3] T (0, 0))) : ∀ (j : Nat) (u : Value), [a0, a1, a2, a3][j]? = some u → w.cell? ((⟨b, 0, Option.none⟩ : Addr).add j) = some u := by
 intro j u hj
 have hc := cell_of h
 match j, hj with
 | 0, hj => rw [show (⟨b, 0, Option.none⟩ : Addr).add 0 = ⟨b, 0, Option.none⟩ by simp [Addr.add], hc]; simpa using hj
 | 1, hj => rw [show (⟨b, 0, Option.none⟩ : Addr).add 1 = ⟨b, 1, Option.none⟩ by simp [Addr.add], hc]; simpa using hj
 | 2, hj => rw [show (⟨b, 0, Option.none⟩ : Addr).add 2 = ⟨b, 2, Option.none⟩ by simp [Addr.add], hc]; simpa using hj
 | 3, hj => rw [show (⟨b, 0, Option.none⟩ : Addr).add 3 = ⟨b, 3, Option.none⟩ by simp [Addr.add], hc]; simpa using hj
 | j + 4, hj => simp at hj
def lexOk (r : Except (Int × Nat) (List Tok)) (B : Nat) (e : Ending) (w' : World) : Prop := match r with
 | .error (er, p) => e = .returned (.tuple #[.slice none 0 0, .int .i64 er, .int .i64 p])
 | .ok ts => ∃ v, e = .returned (.tuple #[v, .int .i64 0, .int .i64 0]) ∧ OwnT B v ts w'
def restL (s : ByteArray) (i : Nat) : Except (Int × Nat) (List Tok) := lexL s.size i (s.data.toList.drop i)
def withL (ts : List Tok) : Except (Int × Nat) (List Tok) → Except (Int × Nat) (List Tok)
 | .error e => .error e
 | .ok ys => .ok (ts ++ ys)
theorem restL_zero (s : ByteArray) (h : s.size ≤ 4096) : lexOf s.data.toList = restL s 0 := by
 unfold lexOf restL; rw [if_neg (by rw [size_list]; omega), List.drop_zero, size_list]
theorem restL_end (s : ByteArray) : restL s s.size = .ok [⟨0, s.size, [], 0⟩] := by
 unfold restL; rw [List.drop_of_length_le (by rw [size_list]; exact Nat.le_refl _)]; cases s.size <;> rfl
theorem restL_blank (s : ByteArray) (i : Nat) (h : i < s.size) (hc : s[i] = 32 ∨ s[i] = 10) : restL s i = restL s (i + 1) := by
 unfold restL
 rw [drop_cons s i h]
 obtain ⟨f, hf⟩ : ∃ f, s.size = f + 1 := ⟨s.size - 1, by omega⟩
 rw [lexL_fuel s.size s.size (f + 1) (i + 1) (s.data.toList.drop (i + 1)) (by rw [drop_len]; omega) (by rw [drop_len]; omega) (by rw [drop_len]; omega), lexL_fuel s.size (f + 1) f (i + 1) (s.data.toList.drop (i + 1)) (by rw [drop_len]; omega) (by rw [drop_len]; omega) (by rw [drop_len]; omega), hf, lexL, if_pos hc]
theorem restL_err (s : ByteArray) (i : Nat) (h : i < s.size) (hc : ¬ (s[i] = 32 ∨ s[i] = 10)) {e : Int} (ht : tok (s.data.toList.drop i) = .error e) : restL s i = .error (e, i) := by
 unfold restL
 rw [drop_cons s i h] at ht ⊢
 obtain ⟨f, hf⟩ : ∃ f, s.size = f + 1 := ⟨s.size - 1, by omega⟩
 rw [hf, lexL, if_neg hc, ht]
theorem restL_tok (s : ByteArray) (i : Nat) (h : i < s.size) (hc : ¬ (s[i] = 32 ∨ s[i] = 10)) {k : Int} {t : List UInt8} {n : Int} {m : Nat} (ht : tok (s.data.toList.drop i) = .ok (k, t, n, m)) (ts : List Tok) :
  withL ts (restL s i) = withL (ts ++ [⟨k, i, t, n⟩]) (restL s (i + m)) := by
 have hm := tok_len ht
 rw [drop_len] at hm
 have e2 : restL s (i + m) = lexL (s.size - 1) (i + m) (s.data.toList.drop (i + m)) := by
  unfold restL
  exact lexL_fuel s.size _ _ _ _ (by rw [drop_len]; omega) (by rw [drop_len]; omega) (by rw [drop_len]; omega)
 rw [e2]
 unfold restL
 have hd : (s.data.toList.drop i).drop m = s.data.toList.drop (i + m) := by rw [List.drop_drop]
 rw [drop_cons s i h] at ht hd ⊢
 obtain ⟨f, hf⟩ : ∃ f, s.size = f + 1 := ⟨s.size - 1, by omega⟩
 rw [show lexL s.size i = lexL (f + 1) i by rw [hf], lexL, if_neg hc, ht]
 simp only [hd]
 rw [show s.size - 1 = f by omega]
 cases lexL f (i + m) (s.data.toList.drop (i + m)) with
 | error e => rfl
 | ok ys => simp [withL]
theorem withL_nil (r : Except (Int × Nat) (List Tok)) : withL [] r = r := by cases r <;> rfl
set_option maxHeartbeats 1000000 in
set_option maxRecDepth 100000 in
theorem Lex_big (s : ByteArray) (hs : s.size ≤ 9223372036854775807) (hb : 4096 < s.size) (w : World) :
  Calls Tryz.prog 18 #[.string s] w fun e w' => lexOk (lexOf s.data.toList) w.heap.size e w' ∧ Fr [] w w' := by
 have h0 : lexOf s.data.toList = .error (4, 0) := by unfold lexOf; rw [if_pos (by rw [size_list]; exact hb)]
 rw [h0]
 go_enter Tryz.func18, Tryz.ntmps18
 go_wp2_with fail
 go_ret3
 exact ⟨rfl, Fr.refl _ _⟩
set_option maxHeartbeats 1000000 in
set_option maxRecDepth 100000 in
theorem Lex_small (s : ByteArray) (hs : s.size ≤ 4096) (w : World) (hE : EnvL w) :
  Calls Tryz.prog 18 #[.string s] w fun e w' => lexOk (lexOf s.data.toList) w.heap.size e w' ∧ Fr [] w w' := by
 obtain ⟨i0, hi, hz0, hz1, hz2⟩ := info_parts infoTok
 have H0 := Lib.hid ((withL_nil _).symm.trans (congrArg (withL []) (restL_zero s hs)).symm).symm
 have HA : Hid (withL [] (restL s 0) = lexOf s.data.toList) := Lib.hid (by rw [withL_nil, restL_zero s hs])
 clear H0
 generalize lexOf s.data.toList = R at *
 go_enter Tryz.func18, Tryz.ntmps18
 go_wp2_with fail
 go_loopw [5, 6] (fun v i wr => ∃ (k : Nat) (ts : List Tok), k ≤ s.size ∧ i = .int .i64 k ∧ OwnT w.heap.size v ts wr ∧ ts.length ≤ k ∧ Fr [] w wr ∧ Hid (withL ts (restL s k) = R)) (fun _ i _ => s.size - (intOf i).toNat)
 case atStart => exact ⟨0, [], Nat.zero_le _, rfl, OwnT.nil_ _ _, Nat.le_refl _, Fr.refl _ _, HA⟩
 case round =>
  obtain ⟨k, ts, hk, rfl, ⟨hown, hog⟩, hlen, hf, HR⟩ := hrel
  clear HA
  by_cases hlt : k < s.size
  ·by_cases hbl : s[k] = 32 ∨ s[k] = 10
   ·have HR2 : Hid (withL ts (restL s (k + 1)) = R) := Lib.hid (by rw [← restL_blank s k hlt hbl]; exact HR.out)
    have key : (((s[k].toNat : Nat) : Int) == 32) = true ∨ ((((s[k].toNat : Nat) : Int) == 32) = false ∧ (((s[k].toNat : Nat) : Int) == 10) = true) := by
     rcases hbl with h | h
     ·left; rw [h]; rfl
     ·right; rw [h]; exact ⟨rfl, rfl⟩
    clear hbl
    rcases key with b1 | ⟨b1, b2⟩
    all_goals
     go_wp2_with fail
     go_roundw
     case rel => exact ⟨k + 1, ts, by omega, by go_num, ⟨hown, hog⟩, by omega, hf, HR2⟩
     case measure => simp [intOf]; omega
   ·have b1 : (((s[k].toNat : Nat) : Int) == 32) = false := byte_ne (n := 32) (by omega) (fun h => hbl (.inl h))
    have b2 : (((s[k].toNat : Nat) : Int) == 10) = false := byte_ne (n := 10) (by omega) (fun h => hbl (.inr h))
    have hx : (s.extract k s.size).data.toList = s.data.toList.drop k := by rw [Lib.extract_to_end s k]
    have hxs : (s.extract k s.size).size = s.size - k := by rw [← size_list, hx, drop_len]
    have c1 := fun w hE => Lib.hid (one_any (s.extract k s.size) (by omega) (by omega) w hE)
    rw [hx] at c1
    have hEr := hE.fr hf
    clear hx hxs
    cases ht : tok (s.data.toList.drop k) with
    | error er =>
     have hR := Lib.hid (HR.out.symm.trans (congrArg (withL ts) (restL_err s k hlt hbl ht)))
     have her : ¬ er = 0 := by rcases tok_errs ht with h | h <;> omega
     rw [ht] at c1
     clear ht hbl HR
     go_wp2_with fail
     refine (c1 _ hEr).out.mono ?_
     rintro e x1 ⟨⟨ek, ea, et, en, v2, rfl⟩, f1⟩
     unfold tokV
     go_wp2_with fail
     go_ret3
     refine ⟨?_, (hf.trans f1).alloc _⟩
     rw [hR.out]
     exact rfl
    | ok x =>
     obtain ⟨kd, tx, n, m⟩ := x
     have hm := tok_len ht
     rw [drop_len] at hm
     have HR2 : Hid (withL (ts ++ [⟨kd, k, tx, n⟩]) (restL s (k + m)) = R) := Lib.hid (by rw [← restL_tok s k hlt hbl ht]; exact HR.out)
     rw [ht] at c1
     clear ht hbl HR
     go_wp2_with fail
     refine (c1 _ hEr).out.mono ?_
     rintro e x1 ⟨he, f1⟩
     have he : e = .returned (.tuple #[tokV kd 0 tx n, .int .i64 ((0 + m : Nat) : Int), .int .i64 0]) := he
     rw [Nat.zero_add] at he
     subst he
     unfold tokV
     have hown1 := ownsRow_fr hown f1 (fun _ _ h => by cases h)
     go_wp2_with (at_builtin; refine wpList_append_fp _ rfl _ _ 41 rfl 46 i0 _ 4 40 Tryz.underlying41 hi hz0 hz1 hz2 rfl (by decide) _ _ _ rfl ((hown1.alloc _).alloc _) ⟨x1.heap.size + 1, 0, none⟩ 1 1 [.int .i64 kd, .int .i64 k, .string ⟨tx.toArray⟩, .int .i64 n] rfl rfl ?c1 ?c2 ?c3 ?c4 ?_)
     case c1 =>
      refine tok_news _ _ _ _ _ _ 46 ?_
      have := heap_new (x1.alloc (.cells #[.int .i64 kd, .int .i64 k, .string ⟨tx.toArray⟩, .int .i64 n] 46)) (.cells #[.int .i64 kd, .int .i64 k, .string ⟨tx.toArray⟩, .int .i64 n] 46)
      rw [World.size_alloc] at this
      exact this
     case c2 => intro u hu; simp at hu; rcases hu with rfl | rfl | rfl | rfl <;> rfl
     case c3 => unfold maxLen; omega
     case c4 => omega
     intro v' w2 hown2 hgrow hfp
     have hf2 : Fr [] w w2 := (((hf.trans f1).alloc _).alloc _).append hgrow (fun g hg => .inr (hog g hg))
     have hog2 : ∀ g, v'.ownBlock = some g → w.heap.size ≤ g := fun g hg => by
      rcases hfp g hg with h | h
      ·exact hog g h
      ·have := hf.size; have := f1.size; (try simp only [World.size_alloc] at h); omega
     have hown3 : w2.ownsRow 0 46 4 v' (ts ++ [(⟨kd, k, tx, n⟩ : Tok)]).length (toksC (ts ++ [(⟨kd, k, tx, n⟩ : Tok)])) := by
      rw [toksC_snoc, List.length_append]; exact hown2
     clear hown2 hgrow hfp hown1 hown
     go_wp2_with fail
     go_roundw
     case rel => exact ⟨k + m, ts ++ [⟨kd, k, tx, n⟩], by omega, by go_num, ⟨hown3, hog2⟩, by rw [List.length_append, List.length_singleton]; omega, hf2, HR2⟩
     case measure => simp [intOf]; omega
  ·have hke : k = s.size := by omega
   subst hke
   have hR := Lib.hid (HR.out.symm.trans (congrArg (withL ts) (restL_end s)))
   go_wp2_with (at_builtin; refine wpList_append_fp _ rfl _ _ 41 rfl 46 i0 _ 4 40 Tryz.underlying41 hi hz0 hz1 hz2 rfl (by decide) _ _ _ rfl (hown.alloc _) ⟨wr.heap.size, 0, none⟩ 1 1 [.int .i64 0, .int .i64 s.size, .string ⟨#[]⟩, .int .i64 0] rfl rfl ?d1 ?d2 ?d3 ?d4 ?_)
   case d1 => exact tok_news _ _ _ _ _ _ 46 (heap_new wr _)
   case d2 => intro u hu; simp at hu; rcases hu with rfl | rfl | rfl | rfl <;> rfl
   case d3 => unfold maxLen; omega
   case d4 => omega
   intro v' w2 hown2 hgrow hfp
   have hf2 : Fr [] w w2 := (hf.alloc _).append hgrow (fun g hg => .inr (hog g hg))
   have hog2 : ∀ g, v'.ownBlock = some g → w.heap.size ≤ g := fun g hg => by
    rcases hfp g hg with h | h
    ·exact hog g h
    ·have := hf.size; (try simp only [World.size_alloc] at h); omega
   have hown3 : w2.ownsRow 0 46 4 v' (ts ++ [(⟨0, s.size, [], 0⟩ : Tok)]).length (toksC (ts ++ [(⟨0, s.size, [], 0⟩ : Tok)])) := by
    rw [toksC_snoc, List.length_append]; exact hown2
   clear hown2 hgrow hfp hown
   go_wp2_with fail
   go_ret3
   refine ⟨?_, hf2⟩
   rw [hR.out]
   exact ⟨v', rfl, hown3, hog2⟩
theorem Lex_any (s : ByteArray) (hs : s.size ≤ 9223372036854775807) (w : World) (hE : EnvL w) :
  Calls Tryz.prog 18 #[.string s] w fun e w' => lexOk (lexOf s.data.toList) w.heap.size e w' ∧ Fr [] w w' := by
 by_cases h : s.size ≤ 4096
 ·exact Lex_small s h w hE
 ·exact Lex_big s hs (by omega) w
end Go.Proofs.YtpjkfeehgookkaaGreatDoor
namespace Go.Proofs.YtpjkfeehgookkaaGreatDoor
open Go.RowKit
structure RT (g : Nat) (ts : List Tok) (w : World) : Prop where
 c0 : ∀ (k : Nat) (t : Tok), ts[k]? = some t → w.cell? ⟨g, k * 4, none⟩ = some (.int .i64 t.k)
 c1 : ∀ (k : Nat) (t : Tok), ts[k]? = some t → w.cell? ⟨g, k * 4 + 1, none⟩ = some (.int .i64 t.at')
 c2 : ∀ (k : Nat) (t : Tok), ts[k]? = some t → w.cell? ⟨g, k * 4 + 2, none⟩ = some (.string ⟨t.text.toArray⟩)
 c3 : ∀ (k : Nat) (t : Tok), ts[k]? = some t → w.cell? ⟨g, k * 4 + 3, none⟩ = some (.int .i64 t.n)
theorem toksC_at : ∀ (ts : List Tok) (k j : Nat) (t : Tok), ts[k]? = some t → j < 4 → (toksC ts)[k * 4 + j]? = (tokCells t)[j]?
 | [], k, j, t, h, _ => by simp at h
 | u :: ts, 0, j, t, h, hj => by
  simp at h; subst h
  have e : toksC (u :: ts) = tokCells u ++ toksC ts := rfl
  rw [e, Nat.zero_mul, Nat.zero_add, List.getElem?_append_left (by simp [tokCells]; omega)]
 | u :: ts, k + 1, j, t, h, hj => by
  have e : toksC (u :: ts) = tokCells u ++ toksC ts := rfl
  have h' : ts[k]? = some t := by simpa using h
  have hl : (tokCells u).length = 4 := rfl
  rw [e, List.getElem?_append_right (by rw [hl]; omega), hl, ← toksC_at ts k j t h' hj]
  congr 1
  omega
theorem form_ownT {B : Nat} {v : Value} {ts : List Tok} {w : World} (h : OwnT B v ts w) (hne : ts ≠ []) : ∃ g c, v = .slice (some ⟨g, 0, none⟩) ts.length c ∧ B ≤ g ∧ g < w.heap.size ∧ RT g ts w := by
 have hl : 0 < ts.length := List.length_pos_iff.2 hne
 obtain ⟨g, cap, hv, _, hlt⟩ := World.ownsRow.form h.1 hl
 subst hv
 have hc := fun (k j : Nat) (t : Tok) (hk : ts[k]? = some t) (hj : j < 4) => (World.ownsRow.cellAt h.1 (k * 4 + j) (by have := (List.getElem?_eq_some_iff.1 hk).1; omega)).trans (toksC_at ts k j t hk hj)
 exact ⟨g, cap, rfl, h.2 g rfl, hlt, ⟨fun k t hk => hc k 0 t hk (by omega), fun k t hk => hc k 1 t hk (by omega), fun k t hk => hc k 2 t hk (by omega), fun k t hk => hc k 3 t hk (by omega)⟩⟩
theorem RT.fr {g : Nat} {ts : List Tok} {w w' : World} (h : RT g ts w) (hf : Fr [] w w') (hg : g < w.heap.size) : RT g ts w' :=
 ⟨fun k t hk => (hf.cell (p := ⟨g, k * 4, none⟩) hg (fun x => by cases x)).trans (h.c0 k t hk), fun k t hk => (hf.cell (p := ⟨g, k * 4 + 1, none⟩) hg (fun x => by cases x)).trans (h.c1 k t hk), fun k t hk => (hf.cell (p := ⟨g, k * 4 + 2, none⟩) hg (fun x => by cases x)).trans (h.c2 k t hk), fun k t hk => (hf.cell (p := ⟨g, k * 4 + 3, none⟩) hg (fun x => by cases x)).trans (h.c3 k t hk)⟩
set_option maxHeartbeats 1000000 in
set_option maxRecDepth 100000 in
theorem RText5_any (t : Tok) (h0 : -9223372036854775808 ≤ t.n) (h1 : t.n ≤ 9223372036854775807) (hx : t.text.length ≤ 100000) (w : World) :
  Calls Tryz.prog 19 #[.agg #[.int .i64 t.k, .int .i64 t.at', .string ⟨t.text.toArray⟩, .int .i64 t.n]] w fun e w' => e = .returned (.string ⟨(tokText t.k t.text t.n).toArray⟩) ∧ Fr [] w w' := by
 obtain ⟨k, a, x, n⟩ := t
 simp only at h0 h1 hx ⊢
 have cn := fun w => Lib.hid (RText_any n h0 h1 w)
 have cq := fun w => Lib.hid (RQuote_any ⟨x.toArray⟩ (by show x.length ≤ 16777216; omega) w)
 have hxa : (ByteArray.mk x.toArray).data.toList = x := rfl
 rw [hxa] at cq
 clear hxa
 unfold tokText
 have fA : Fr [] w (w.alloc (.cells #[.int .i64 k, .int .i64 a, .string ⟨x.toArray⟩, .int .i64 n] 46)) := (Fr.refl [] w).alloc _
 by_cases k3 : k = 3
 ·subst k3
  rw [if_pos rfl]
  go_enter Tryz.func19, Tryz.ntmps19
  go_wp2_with fail
  go_ret
  exact ⟨by simp [ByteArray.mk_append_mk], fA⟩
 ·rw [if_neg k3]
  have d3 : (k == 3) = false := beq_eq_false_iff_ne.2 k3
  by_cases k4 : k = 4
  ·subst k4
   rw [if_pos rfl]
   clear d3 k3
   go_enter Tryz.func19, Tryz.ntmps19
   go_wp2_with fail
   refine (cn _).out.mono ?_; rintro e x1 ⟨rfl, f1⟩; go_wp2_with fail
   go_ret
   exact ⟨rfl, fA.trans f1⟩
  ·rw [if_neg k4]
   have d4 : (k == 4) = false := beq_eq_false_iff_ne.2 k4
   by_cases k5 : k = 5
   ·subst k5
    rw [if_pos rfl]
    clear d3 k3 d4 k4
    go_enter Tryz.func19, Tryz.ntmps19
    go_wp2_with fail
    refine (cq _).out.mono ?_; rintro e x1 ⟨rfl, f1⟩; go_wp2_with fail
    go_ret
    exact ⟨rfl, fA.trans f1⟩
   ·rw [if_neg k5]
    have d5 : (k == 5) = false := beq_eq_false_iff_ne.2 k5
    go_enter Tryz.func19, Tryz.ntmps19
    go_wp2_with fail
    go_ret
    exact ⟨rfl, fA⟩
theorem tok_bd {l : List UInt8} {k : Int} {t : List UInt8} {n : Int} {m : Nat} (h : tok l = .ok (k, t, n, m)) : t.length ≤ l.length ∧ 0 ≤ n ∧ n ≤ 4611686018427387903 := by
 have hr : ∀ x, 0 ≤ readN x ∧ readN x ≤ 4611686018427387903 := by
  intro x; unfold readN; split
  ·rename_i h; omega
  ·omega
 unfold tok at h
 split at h
 ·cases h
 ·rename_i c r
  have hle := runL_le (c :: r)
  have hle2 := runL_le r
  split at h
  ·simp only [Except.ok.injEq, Prod.mk.injEq] at h; obtain ⟨_, rfl, rfl, _⟩ := h; omega
  ·split at h
   ·simp only [Except.ok.injEq, Prod.mk.injEq] at h; obtain ⟨_, rfl, rfl, _⟩ := h; omega
   ·split at h
    ·simp only [Except.ok.injEq, Prod.mk.injEq] at h; obtain ⟨_, rfl, rfl, _⟩ := h; simp only [List.length_cons]; omega
    ·split at h
     ·split at h
      ·simp only [Except.ok.injEq, Prod.mk.injEq] at h; obtain ⟨_, rfl, rfl, _⟩ := h
       have := hr (runL (c :: r))
       exact ⟨by simp, this.1, this.2⟩
      ·cases h
     ·split at h
      ·split at h
       ·cases h
       ·rename_i j hq
        split at h
        ·cases h
        ·rename_i u hu
         simp only [Except.ok.injEq, Prod.mk.injEq] at h; obtain ⟨_, rfl, rfl, _⟩ := h
         have h1 := unq_some hu
         have h2 := length_quotes u
         have h3 := congrArg List.length h1
         simp only [quoteL, List.length_cons, List.length_append, List.length_take] at h3
         simp only [List.length_cons]
         omega
      ·split at h
       ·cases h
       ·rename_i x hx
        simp only [Except.ok.injEq, Prod.mk.injEq] at h; obtain ⟨_, rfl, rfl, _⟩ := h
        have hp := (List.isPrefixOf_iff_prefix.1 (List.find?_some (p := fun x : List UInt8 => x.isPrefixOf (c :: r)) hx)).length_le
        omega
structure TokBd (M : Nat) (t : Tok) : Prop where
 k0 : 0 ≤ t.k
 k1 : t.k ≤ 7
 a : t.at' ≤ M
 x : t.text.length ≤ M
 n0 : 0 ≤ t.n
 n1 : t.n ≤ 4611686018427387903
 l : (tokText t.k t.text t.n).length ≤ M
theorem lexL_bd {f a : Nat} {l : List UInt8} {ts : List Tok} (h : lexL f a l = .ok ts) : ts.length ≤ l.length + 1 ∧ ∀ t ∈ ts, TokBd (a + l.length) t := by
 refine lexL_ind (P := fun a l ts => ts.length ≤ l.length + 1 ∧ ∀ t ∈ ts, TokBd (a + l.length) t) ?_ ?_ ?_ f a l ts h
 ·intro a
  refine ⟨by simp, fun t ht => ?_⟩
  rw [List.mem_singleton] at ht
  subst ht
  exact ⟨Int.le_refl 0, by simp only; omega, by simp, by simp, Int.le_refl 0, by simp only; omega, by simp [tokText]⟩
 ·rintro a c r ts _ ⟨h1, h2⟩
  refine ⟨by rw [List.length_cons]; omega, fun t ht => ?_⟩
  have := h2 t ht
  rw [List.length_cons, show a + (r.length + 1) = a + 1 + r.length by omega]
  exact this
 ·rintro a c r k t n m ts _ ht ⟨h1, h2⟩
  have hm := tok_len ht
  have hk := tok_kind ht
  have hb := tok_bd ht
  have hl := tok_mlen ht
  rw [List.length_drop] at h1
  refine ⟨by rw [List.length_cons]; omega, fun u hu => ?_⟩
  rcases List.mem_cons.1 hu with rfl | hu
  ·exact ⟨by simp only; omega, hk.2, by simp only; omega, by simp only; omega, hb.2.1, hb.2.2, by simp only; omega⟩
  ·have := h2 u hu
   rw [List.length_drop, show a + m + ((c :: r).length - m) = a + (c :: r).length by omega] at this
   exact this
theorem lexOf_ok {s : List UInt8} {ts : List Tok} (h : lexOf s = .ok ts) : s.length ≤ 4096 ∧ lexL s.length 0 s = .ok ts ∧ ts.length ≤ 4097 ∧ (∀ t ∈ ts, TokBd 4096 t) ∧ ∃ ys, ts = ys ++ [⟨0, s.length, [], 0⟩] ∧ ∀ y ∈ ys, GoodT y := by
 unfold lexOf at h
 split at h
 ·cases h
 ·rename_i hs
  have hb := lexL_bd h
  obtain ⟨ys, hy, hg⟩ := lexL_last h
  refine ⟨by omega, h, by omega, fun t ht => ?_, ys, by rw [hy, Nat.zero_add], hg⟩
  have := hb.2 t ht
  exact ⟨this.k0, this.k1, by have := this.a; omega, by have := this.x; omega, this.n0, this.n1, by have := this.l; omega⟩
theorem lexOf_err {s : List UInt8} {e : Int} {p : Nat} (h : lexOf s = .error (e, p)) : (4096 < s.length ∧ e = 4 ∧ p = 0) ∨ (s.length ≤ 4096 ∧ p < s.length ∧ (e = 20 ∨ e = 2) ∧ lexL s.length 0 s = .error (e, p)) := by
 unfold lexOf at h
 split at h
 ·rename_i hs; cases h; exact .inl ⟨hs, rfl, rfl⟩
 ·rename_i hs
  have := lexL_err s.length 0 s e p (Nat.le_refl _) h
  exact .inr ⟨by omega, by omega, this.2.2, h⟩
def lexF (r : Except (Int × Nat) (List Tok)) (e : Ending) (w' : World) : Prop := match r with
 | .error (er, p) => e = .returned (.tuple #[.slice none 0 0, .int .i64 er, .int .i64 p])
 | .ok ts => ∃ g c, e = .returned (.tuple #[.slice (some ⟨g, 0, none⟩) ts.length c, .int .i64 0, .int .i64 0]) ∧ g < w'.heap.size ∧ RT g ts w'
theorem lexF_of {s : List UInt8} {B : Nat} {e : Ending} {w' : World} (h : lexOk (lexOf s) B e w') : lexF (lexOf s) e w' := by
 cases hl : lexOf s with
 | error x => rw [hl] at h; exact h
 | ok ts =>
  rw [hl] at h
  obtain ⟨v, rfl, hO⟩ := h
  obtain ⟨_, _, _, _, ys, rfl, _⟩ := lexOf_ok hl
  obtain ⟨g, c, rfl, _, hg, hR⟩ := form_ownT hO (by simp)
  exact ⟨g, c, rfl, hg, hR⟩
theorem Lex_f (s : ByteArray) (hs : s.size ≤ 9223372036854775807) (w : World) (hE : EnvL w) :
  Calls Tryz.prog 18 #[.string s] w fun e w' => lexF (lexOf s.data.toList) e w' ∧ Fr [] w w' :=
 (Lex_any s hs w hE).mono fun _ _ h => ⟨lexF_of h.1, h.2⟩
theorem Lex_ok (s : ByteArray) (hs : s.size ≤ 9223372036854775807) {ts : List Tok} (h : lexOf s.data.toList = .ok ts) (w : World) (hE : EnvL w) :
  Calls Tryz.prog 18 #[.string s] w fun e w' => (∃ g c, e = .returned (.tuple #[.slice (some ⟨g, 0, none⟩) ts.length c, .int .i64 0, .int .i64 0]) ∧ g < w'.heap.size ∧ RT g ts w') ∧ Fr [] w w' :=
 (Lex_f s hs w hE).mono fun _ _ h' => by rw [h] at h'; exact h'
theorem Lex_er (s : ByteArray) (hs : s.size ≤ 9223372036854775807) {er : Int} {p : Nat} (h : lexOf s.data.toList = .error (er, p)) (w : World) (hE : EnvL w) :
  Calls Tryz.prog 18 #[.string s] w fun e w' => e = .returned (.tuple #[.slice none 0 0, .int .i64 er, .int .i64 p]) ∧ Fr [] w w' :=
 (Lex_f s hs w hE).mono fun _ _ h' => by rw [h] at h'; exact h'
end Go.Proofs.YtpjkfeehgookkaaGreatDoor
namespace Go.Proofs.YtpjkfeehgookkaaGreatDoor
open Go.RowKit
def StrsR (g : Nat) (l : List (List UInt8)) (w : World) : Prop := ∀ (i : Nat) (x : List UInt8), l[i]? = some x → w.cell? ⟨g, i, none⟩ = some (.string ⟨x.toArray⟩)
def IdxP (b : Bool) (w : World) (e : Ending) (w' : World) : Prop := ∃ n : Int, e = .returned (.int .i64 n) ∧ decide (0 ≤ n) = b ∧ w = w'
set_option maxRecDepth 100000 in
theorem Index_any (g c : Nat) (l : List (List UInt8)) (x : ByteArray) (hl : l.length ≤ 1000) (w : World) (h : StrsR g l w) :
  Calls Tryz.prog 109 #[.slice (some ⟨g, 0, none⟩) l.length c, .string x] w (IdxP (l.contains x.data.toList) w) := by
 have HX : Hid (∀ j (hj : j < l.length), l[j] = x.data.toList → l.contains x.data.toList = true) := Lib.hid (fun j hj e => List.contains_iff_mem.2 (e ▸ List.getElem_mem hj))
 have HN : Hid ((∀ j (hj : j < l.length), l[j] ≠ x.data.toList) → l.contains x.data.toList = false) := Lib.hid (fun hn => by
  rw [Bool.eq_false_iff]
  intro hc
  obtain ⟨j, hj, e⟩ := List.mem_iff_getElem.1 (List.contains_iff_mem.1 hc)
  exact hn j hj e)
 generalize l.contains x.data.toList = R at *
 have HC := Lib.hid h
 clear h
 go_enter Tryz.func109, Tryz.ntmps109
 go_wp2_with fail
 go_loop [8] (fun i => ∃ k : Nat, i = .int .i64 k ∧ k ≤ l.length ∧ Hid (∀ j (hj : j < l.length), j < k → l[j] ≠ x.data.toList)) (fun i => l.length - (intOf i).toNat)
 case atStart => exact ⟨0, rfl, by omega, Lib.hid (fun j _ h => absurd h (by omega))⟩
 case round =>
  obtain ⟨k, rfl, hk, HK⟩ := hrel
  by_cases hlt : k < l.length
  ·have hcell := HC.out k _ (List.getElem?_eq_getElem hlt)
   have HX1 := Lib.hid (HX.out k hlt)
   have HS : l[k] ≠ x.data.toList → Hid (∀ j (hj : j < l.length), j < k + 1 → l[j] ≠ x.data.toList) := fun hne => Lib.hid (fun j hj h => by
    rcases Nat.lt_or_ge j k with h1 | h1
    ·exact HK.out j hj h1
    ·have : j = k := by omega
     subst this; exact hne)
   by_cases hq : l[k] = x.data.toList
   ·have hR := HX1.out hq
    subst hR
    have hq2 : (x.toList == l[k]) = true := by rw [ByteArray.toList_eq, hq]; simp
    clear hq HX HN HS HX1 HK
    generalize l[k] = y at *
    go_wp2_with fail
    go_ret
    exact ⟨k, rfl, by simp, rfl⟩
   ·have HS2 := HS hq
    have hq2 : (x.toList == l[k]) = false := by rw [ByteArray.toList_eq, beq_eq_false_iff_ne]; exact fun h => hq h.symm
    clear hq HS HX1
    generalize l[k] = y at *
    go_wp2_with fail
    go_round
    case rel => exact ⟨k + 1, by go_num, by omega, HS2⟩
    case measure => simp [intOf]; omega
  ·have hR := HN.out (fun j hj => HK.out j hj (by omega))
   subst hR
   go_wp2_with fail
   go_ret
   exact ⟨-1, rfl, by decide, rfl⟩
set_option maxRecDepth 100000 in
theorem SlContains_any (g c : Nat) (l : List (List UInt8)) (x : ByteArray) (hl : l.length ≤ 1000) (w : World) (h : StrsR g l w) :
  Calls Tryz.prog 83 #[.slice (some ⟨g, 0, none⟩) l.length c, .string x] w fun e w' => e = .returned (.bool (l.contains x.data.toList)) ∧ w = w' := by
 have ci := Lib.hid (Index_any g c l x hl w h)
 generalize l.contains x.data.toList = R at *
 clear h
 go_enter Tryz.func83, Tryz.ntmps83
 go_wp2_with fail
 refine ci.out.mono ?_; rintro e w1 ⟨n, rfl, rfl, rfl⟩; go_wp2_with fail
 go_ret
 exact ⟨rfl, rfl⟩
structure PSt (P g c : Nat) (ts : List Tok) (st : St) (w : World) : Prop where
 blk : w.heap[P]? = some (.cells #[.slice (some ⟨g, 0, none⟩) ts.length c, .int .i64 (st.i : Nat), .bool st.ok] 52 (0, 0))
 rt : RT g ts w
 lt : g < w.heap.size
 ne : g ≠ P
 inb : st.i < ts.length
theorem PSt.fr {P g c : Nat} {ts : List Tok} {st : St} {w w' : World} (h : PSt P g c ts st w) (hf : Fr [] w w') : PSt P g c ts st w' :=
 ⟨hf.keep h.blk (fun x => by cases x), h.rt.fr hf h.lt, Nat.lt_of_lt_of_le h.lt hf.size, h.ne, h.inb⟩
theorem RT.frL {g : Nat} {ts : List Tok} {w w' : World} {L : List Nat} (h : RT g ts w) (hf : Fr L w w') (hg : g < w.heap.size) (hn : g ∉ L) : RT g ts w' :=
 ⟨fun k t hk => (hf.cell (p := ⟨g, k * 4, none⟩) hg hn).trans (h.c0 k t hk), fun k t hk => (hf.cell (p := ⟨g, k * 4 + 1, none⟩) hg hn).trans (h.c1 k t hk), fun k t hk => (hf.cell (p := ⟨g, k * 4 + 2, none⟩) hg hn).trans (h.c2 k t hk), fun k t hk => (hf.cell (p := ⟨g, k * 4 + 3, none⟩) hg hn).trans (h.c3 k t hk)⟩
def EndOk (ts : List Tok) : Prop := ts.length ≤ 4097 ∧ ∀ (i : Nat) (t : Tok), ts[i]? = some t → (t.k ≠ 0 ↔ i + 1 < ts.length) ∧ TokBd 4096 t
theorem cells3 {x : World} {B : Nat} {T : TypeId} {a b c : Value} (h : x.heap[B]? = some (.cells #[a, b, c] T (0, 0))) :
  x.cell? ⟨B, 0, none⟩ = some a ∧ x.cell? ⟨B, 1, none⟩ = some b ∧ x.cell? ⟨B, 2, none⟩ = some c ∧ x.frozen? ⟨B, 0, none⟩ = false ∧ x.frozen? ⟨B, 1, none⟩ = false ∧ x.frozen? ⟨B, 2, none⟩ = false :=
 ⟨cell_of h 0, cell_of h 1, cell_of h 2, frozen_of h 0, frozen_of h 1, frozen_of h 2⟩
set_option maxHeartbeats 1000000 in
set_option maxRecDepth 100000 in
theorem now_any (P g c : Nat) (ts : List Tok) (st : St) (t : Tok) (ht : ts[st.i]? = some t) (w : World) (h : PSt P g c ts st w) (hE : EndOk ts) :
  Calls Tryz.prog 21 #[.pointer (some ⟨P, 0, none⟩)] w fun e w' => e = .returned (.agg #[.int .i64 t.k, .int .i64 t.at', .string ⟨t.text.toArray⟩, .int .i64 t.n]) ∧ Fr [] w w' := by
 obtain ⟨p0, p1, p2, _⟩ := cells3 h.blk
 have a0 := h.rt.c0 _ _ ht
 have a1 := h.rt.c1 _ _ ht
 have a2 := h.rt.c2 _ _ ht
 have a3 := h.rt.c3 _ _ ht
 have hin := h.inb
 have hts := hE.1
 have hP := lt_of_heap h.blk
 have hg := h.lt
 clear ht h hE
 obtain ⟨i, ok⟩ := st
 simp only at *
 obtain ⟨tk, ta, tt, tn⟩ := t
 simp only at *
 have q1 : (0 : Int) ≤ (i : Int) := by omega
 have q2 : (i : Int) < (ts.length : Int) := by omega
 go_enter Tryz.func21, Tryz.ntmps21
 go_wp2_with fail
 have f0 : Fr [] w (w.alloc (.cells #[.int .i64 0, .int .i64 0, .string ⟨#[]⟩, .int .i64 0] 46)) := (Fr.refl [] w).alloc _
 have g0 := heap_new w (.cells #[.int .i64 0, .int .i64 0, .string ⟨#[]⟩, .int .i64 0] 46)
 have p0 := (f0.cell (p := ⟨P, 0, none⟩) hP (fun x => by cases x)).trans p0
 have p1 := (f0.cell (p := ⟨P, 1, none⟩) hP (fun x => by cases x)).trans p1
 have a0 := (f0.cell (p := ⟨g, i * 4, none⟩) hg (fun x => by cases x)).trans a0
 have a1 := (f0.cell (p := ⟨g, i * 4 + 1, none⟩) hg (fun x => by cases x)).trans a1
 have a2 := (f0.cell (p := ⟨g, i * 4 + 2, none⟩) hg (fun x => by cases x)).trans a2
 have a3 := (f0.cell (p := ⟨g, i * 4 + 3, none⟩) hg (fun x => by cases x)).trans a3
 generalize (w.alloc (.cells #[.int .i64 0, .int .i64 0, .string ⟨#[]⟩, .int .i64 0] 46)) = w1 at *
 generalize hB : w.heap.size = B at *
 obtain ⟨c0, c1, c2, c3, z0, z1, z2, z3⟩ := cells4 g0
 have gz := set4 g0 (.int .i64 tk) (.int .i64 ta) (.string ⟨tt.toArray⟩) (.int .i64 tn)
 have fz := f0.store4 hB (.int .i64 tk) (.int .i64 ta) (.string ⟨tt.toArray⟩) (.int .i64 tn)
 have HG := Lib.hid gz
 have HF := Lib.hid fz
 clear gz fz g0 f0
 have n1 : ¬ P = B := by omega
 have n2 : ¬ B = P := by omega
 have n3 : ¬ g = B := by omega
 have n4 : ¬ B = g := by omega
 go_region_held3 (fun w' => w'.cell? ⟨P, 0, none⟩ = some (.slice (some ⟨g, 0, none⟩) ts.length c) ∧ w'.cell? ⟨P, 1, none⟩ = some (.int .i64 i) ∧ w'.cell? ⟨g, i * 4, none⟩ = some (.int .i64 tk) ∧ w'.cell? ⟨g, i * 4 + 1, none⟩ = some (.int .i64 ta) ∧ w'.cell? ⟨g, i * 4 + 2, none⟩ = some (.string ⟨tt.toArray⟩) ∧ w'.cell? ⟨g, i * 4 + 3, none⟩ = some (.int .i64 tn)) (go_keep) (fail)
 generalize (((w1.setCell ⟨B, 0, none⟩ (.int .i64 tk)).setCell ⟨B, 1, none⟩ (.int .i64 ta)).setCell ⟨B, 2, none⟩ (.string ⟨tt.toArray⟩)).setCell ⟨B, 3, none⟩ (.int .i64 tn) = Z at HG HF ⊢
 obtain ⟨d0, d1, d2, d3, _⟩ := cells4 HG.out
 go_wp2_with fail
 refine bodyPost_ret (v := .agg #[.int .i64 tk, .int .i64 ta, .string ⟨tt.toArray⟩, .int .i64 tn]) ?_ rfl ?_
 ·simp [results, Tryz.f21, go_sem, d0, d1, d2, d3]
 ·exact ⟨rfl, HF.out.drew⟩
theorem set_at {x : World} {B : Nat} {T : TypeId} {cs : Array Value} (h : x.heap[B]? = some (.cells cs T (0, 0))) (i : Nat) (v : Value) : (x.setCell ⟨B, i, none⟩ v).heap[B]? = some (.cells (cs.setIfInBounds i v) T (0, 0)) := by
 simp [World.setCell, Array.getElem?_modify, h]
theorem PSt.set1 {P g c : Nat} {ts : List Tok} {st : St} {w : World} (h : PSt P g c ts st w) (hi : st.i + 1 < ts.length) (n : Int) (hn : n = ((st.i + 1 : Nat) : Int)) : PSt P g c ts ⟨st.i + 1, st.ok⟩ (w.setCell ⟨P, 1, none⟩ (.int .i64 n)) := by
 have hf : Fr [P] w (w.setCell ⟨P, 1, none⟩ (.int .i64 n)) := (Fr.refl [P] w).setCell (.inl (by simp)) _
 subst hn
 exact ⟨by have := set_at h.blk 1 (.int .i64 ((st.i + 1 : Nat) : Int)); simpa using this, h.rt.frL hf h.lt (by simpa using h.ne), Nat.lt_of_lt_of_le h.lt hf.size, h.ne, hi⟩
theorem PSt.set2 {P g c : Nat} {ts : List Tok} {st : St} {w : World} (h : PSt P g c ts st w) : PSt P g c ts ⟨st.i, false⟩ (w.setCell ⟨P, 2, none⟩ (.bool false)) := by
 have hf : Fr [P] w (w.setCell ⟨P, 2, none⟩ (.bool false)) := (Fr.refl [P] w).setCell (.inl (by simp)) _
 exact ⟨by have := set_at h.blk 2 (.bool false); simpa using this, h.rt.frL hf h.lt (by simpa using h.ne), Nat.lt_of_lt_of_le h.lt hf.size, h.ne, h.inb⟩
theorem PSt.own {P g c : Nat} {ts : List Tok} {st : St} {w : World} (h : PSt P g c ts st w) {p : Addr} (hp : P ≠ p.block) (hg : g ≠ p.block) (v : Value) : PSt P g c ts st (w.setCell p v) := by
 have hf : Fr [p.block] w (w.setCell p v) := (Fr.refl [p.block] w).setCell (.inl (by simp)) _
 exact ⟨hf.keep h.blk (by simpa using hp), h.rt.frL hf h.lt (by simpa using hg), Nat.lt_of_lt_of_le h.lt hf.size, h.ne, h.inb⟩
set_option maxHeartbeats 1000000 in
set_option maxRecDepth 100000 in
theorem fail_any (P g c : Nat) (ts : List Tok) (st : St) (w : World) (h : PSt P g c ts st w) :
  Calls Tryz.prog 82 #[.pointer (some ⟨P, 0, none⟩)] w fun e w' => e = .returned (.tuple #[]) ∧ PSt P g c ts ⟨st.i, false⟩ w' ∧ Fr [P] w w' := by
 have h2 := Lib.hid h.set2
 have hf : Fr [P] w (w.setCell ⟨P, 2, none⟩ (.bool false)) := (Fr.refl [P] w).setCell (.inl (by simp)) _
 obtain ⟨p0, p1, p2, y0, y1, y2⟩ := cells3 h.blk
 clear h
 go_enter Tryz.func82, Tryz.ntmps82
 go_wp2_with fail
 go_end0
 exact ⟨rfl, h2.out, hf⟩
set_option maxHeartbeats 1000000 in
set_option maxRecDepth 100000 in
theorem next_any (P g c : Nat) (ts : List Tok) (st : St) (t : Tok) (ht : ts[st.i]? = some t) (hok : st.ok = true) (hk : t.k ≠ 0) (w : World) (h : PSt P g c ts st w) (hE : EndOk ts) :
  Calls Tryz.prog 59 #[.pointer (some ⟨P, 0, none⟩)] w fun e w' => e = .returned (.agg #[.int .i64 t.k, .int .i64 t.at', .string ⟨t.text.toArray⟩, .int .i64 t.n]) ∧ PSt P g c ts ⟨st.i + 1, st.ok⟩ w' ∧ Fr [P] w w' := by
 have hi1 := (hE.2 _ _ ht).1.1 hk
 have cn := fun w h => Lib.hid (now_any P g c ts st t ht w h hE)
 have hts := hE.1
 have hP := lt_of_heap h.blk
 have hgl := h.lt
 have H := Lib.hid h
 clear h hE ht
 obtain ⟨i, ok⟩ := st
 simp only at hok hi1
 subst hok
 obtain ⟨tk, ta, tt, tn⟩ := t
 simp only at hk cn ⊢
 have d0 : (tk != 0) = true := by rw [bne_iff_ne]; exact hk
 have d00 : (tk == 0) = false := by rw [beq_eq_false_iff_ne]; exact hk
 clear hk
 go_enter Tryz.func59, Tryz.ntmps59
 go_wp2_with fail
 have f0 : Fr [] w (w.alloc (.cells #[.int .i64 0, .int .i64 0, .string ⟨#[]⟩, .int .i64 0] 46)) := (Fr.refl [] w).alloc _
 have g0 := heap_new w (.cells #[.int .i64 0, .int .i64 0, .string ⟨#[]⟩, .int .i64 0] 46)
 generalize (w.alloc (.cells #[.int .i64 0, .int .i64 0, .string ⟨#[]⟩, .int .i64 0] 46)) = w1 at *
 generalize hB : w.heap.size = B at *
 refine (cn _ (H.out.fr f0)).out.mono ?_; rintro e x1 ⟨rfl, f1⟩
 have g1 := f1.keep g0 (fun x => by cases x)
 have h1 := H.out.fr (f0.trans f1)
 have hP1 := lt_of_heap h1.blk
 have hB1 := lt_of_heap g1
 obtain ⟨p0, p1, p2, y0, y1, y2⟩ := cells3 h1.blk
 obtain ⟨c0, c1, c2, c3, z0, z1, z2, z3⟩ := cells4 g1
 have n1 : ¬ P = B := by omega
 have n2 : ¬ B = P := by omega
 have n7 : ¬ g = B := by omega
 have n8 : ¬ P = x1.heap.size := by omega
 have n9 : ¬ B = x1.heap.size := by omega
 have g0' := (Fr.setCell (L := [P]) (Fr.refl [P] x1) (p := ⟨P, 1, none⟩) (.inl (by simp)) (.int .i64 ((i : Int) + 1))).keep g1 (by simpa using n2)
 have HG := Lib.hid (set4 g0' (.int .i64 tk) (.int .i64 ta) (.string ⟨tt.toArray⟩) (.int .i64 tn))
 have HP := Lib.hid ((((h1.set1 hi1 ((i : Int) + 1) (by simp)).own (p := ⟨B, 0, none⟩) n1 n7 (.int .i64 tk)).own (p := ⟨B, 1, none⟩) n1 n7 (.int .i64 ta)).own (p := ⟨B, 2, none⟩) n1 n7 (.string ⟨tt.toArray⟩) |>.own (p := ⟨B, 3, none⟩) n1 n7 (.int .i64 tn))
 have HF := Lib.hid (((((((f0.trans f1).mono (L' := [P]) (fun x hx => by cases hx)).setCell (p := ⟨P, 1, none⟩) (.inl (by simp)) (.int .i64 ((i : Int) + 1))).setCell (p := ⟨B, 0, none⟩) (.inr (by simp [hB])) (.int .i64 tk)).setCell (p := ⟨B, 1, none⟩) (.inr (by simp [hB])) (.int .i64 ta)).setCell (p := ⟨B, 2, none⟩) (.inr (by simp [hB])) (.string ⟨tt.toArray⟩)).setCell (p := ⟨B, 3, none⟩) (.inr (by simp [hB])) (.int .i64 tn))
 clear g0 g0' g1 h1 f1 f0 H
 go_wp2_with fail
 generalize ((((x1.setCell ⟨P, 1, none⟩ (.int .i64 ((i : Int) + 1))).setCell ⟨B, 0, none⟩ (.int .i64 tk)).setCell ⟨B, 1, none⟩ (.int .i64 ta)).setCell ⟨B, 2, none⟩ (.string ⟨tt.toArray⟩)).setCell ⟨B, 3, none⟩ (.int .i64 tn) = Z at HG HF HP ⊢
 obtain ⟨d0, d1, d2, d3, _⟩ := cells4 (heap_old HG.out (.cells #[.int .i64 tk, .int .i64 ta, .string ⟨tt.toArray⟩, .int .i64 tn] 46))
 refine bodyPost_ret (v := .agg #[.int .i64 tk, .int .i64 ta, .string ⟨tt.toArray⟩, .int .i64 tn]) ?_ rfl ?_
 ·simp [results, Tryz.f59, go_sem, d0, d1, d2, d3]
 ·exact ⟨rfl, HP.out.fr ((Fr.refl [] Z).alloc _), HF.out.alloc _⟩
set_option maxHeartbeats 1000000 in
set_option maxRecDepth 100000 in
theorem is_any (P g c : Nat) (ts : List Tok) (st : St) (t : Tok) (ht : ts[st.i]? = some t) (gl cl : Nat) (l : List (List UInt8)) (hl : l.length ≤ 100) (w : World) (h : PSt P g c ts st w) (hS : StrsR gl l w) (hgl : gl < w.heap.size) (hE : EndOk ts) :
  Calls Tryz.prog 54 #[.pointer (some ⟨P, 0, none⟩), .slice (some ⟨gl, 0, none⟩) l.length cl] w fun e w' => e = .returned (.bool (isB t st.ok l)) ∧ Fr [] w w' := by
 have cn := fun w h => Lib.hid (now_any P g c ts st t ht w h hE)
 have cc := fun w h => Lib.hid (SlContains_any gl cl l ⟨t.text.toArray⟩ (by omega) w h)
 have hP := lt_of_heap h.blk
 have H := Lib.hid h
 have HS := Lib.hid hS
 clear h hE ht hS
 obtain ⟨i, ok⟩ := st
 obtain ⟨tk, ta, tt, tn⟩ := t
 dsimp only at cn cc ⊢
 have key : isB ⟨tk, ta, tt, tn⟩ ok l = (ok && ((tk == 6) || (tk == 7)) && l.contains tt) := rfl
 rw [key]
 clear key
 generalize l.contains tt = R at *
 cases ok with
 | false =>
  go_enter Tryz.func54, Tryz.ntmps54
  go_wp2_with fail
  refine (cn _ H.out).out.mono ?_; rintro e x1 ⟨rfl, f1⟩
  have h1 := H.out.fr f1
  have hP1 := lt_of_heap h1.blk
  obtain ⟨p0, p1, p2, _⟩ := cells3 h1.blk
  clear h1
  go_wp2_with fail
  go_ret
  exact ⟨rfl, f1.alloc _⟩
 | true =>
  by_cases hk : (tk == 6) = true ∨ ((tk == 6) = false ∧ (tk == 7) = true)
  ·rcases hk with hk | ⟨hk, hk7⟩
   all_goals
    simp only [*, Bool.true_and, Bool.true_or, Bool.or_true]
    go_enter Tryz.func54, Tryz.ntmps54
    go_wp2_with fail
    refine (cn _ H.out).out.mono ?_; rintro e x1 ⟨rfl, f1⟩
    have h1 := H.out.fr f1
    have hP1 := lt_of_heap h1.blk
    obtain ⟨p0, p1, p2, _⟩ := cells3 h1.blk
    clear h1
    go_wp2_with fail
    have fa := f1.alloc (.cells #[.int .i64 tk, .int .i64 ta, .string ⟨tt.toArray⟩, .int .i64 tn] 46)
    refine (cc _ (fun i x hi => (fa.cell (p := ⟨gl, i, none⟩) hgl (fun x => by cases x)).trans (HS.out i x hi))).out.mono ?_; rintro e x2 ⟨rfl, rfl⟩; go_wp2_with fail
    go_ret
    exact ⟨rfl, fa⟩
  ·have h6 : (tk == 6) = false := by cases e : (tk == 6) with | false => rfl | true => exact absurd (.inl e) hk
   have h7 : (tk == 7) = false := by cases e : (tk == 7) with | false => rfl | true => exact absurd (.inr ⟨h6, e⟩) hk
   clear hk
   simp only [h6, h7, Bool.or_self, Bool.and_false, Bool.false_and]
   go_enter Tryz.func54, Tryz.ntmps54
   go_wp2_with fail
   refine (cn _ H.out).out.mono ?_; rintro e x1 ⟨rfl, f1⟩
   have h1 := H.out.fr f1
   have hP1 := lt_of_heap h1.blk
   obtain ⟨p0, p1, p2, _⟩ := cells3 h1.blk
   clear h1
   go_wp2_with fail
   go_ret
   exact ⟨rfl, f1.alloc _⟩
end Go.Proofs.YtpjkfeehgookkaaGreatDoor
namespace Go.Proofs.YtpjkfeehgookkaaGreatDoor
open Go.RowKit
section
variable {ts : List Tok} {st st' : St} {r : Rs} {t : Tok} {s : List UInt8}
theorem Run.isC_ {l : List (List UInt8)} {k : Bool → Cmd} {b : Bool} (ht : ts[st.i]? = some t) (hb : isB t st.ok l = b) (hk : Run ts (k b) st r st') : Run ts (isC l k) st r st' := .look ht (by rw [hb]; exact hk)
theorem Run.may_yes {k : Bool → Cmd} (ht : ts[st.i]? = some t) (hb : isB t st.ok [s] = true) (hk : Run ts (k true) ⟨st.i + 1, st.ok⟩ r st') : Run ts (mayC s k) st r st' := .look ht (by rw [if_pos hb]; exact .adv hk)
theorem Run.may_no {k : Bool → Cmd} (ht : ts[st.i]? = some t) (hb : isB t st.ok [s] = false) (hk : Run ts (k false) st r st') : Run ts (mayC s k) st r st' := .look ht (by rw [if_neg (by rw [hb]; decide)]; exact hk)
theorem Run.must_yes {k : Cmd} (ht : ts[st.i]? = some t) (hb : isB t st.ok [s] = true) (hk : Run ts k ⟨st.i + 1, st.ok⟩ r st') : Run ts (mustC s k) st r st' := .look ht (by rw [if_pos hb]; exact .adv hk)
theorem Run.must_no {k : Cmd} (ht : ts[st.i]? = some t) (hb : isB t st.ok [s] = false) (hk : Run ts k ⟨st.i, false⟩ r st') : Run ts (mustC s k) st r st' := .look ht (by rw [if_neg (by rw [hb]; decide)]; exact .fail hk)
theorem Run.name_yes {k : List UInt8 → Cmd} (ht : ts[st.i]? = some t) (hb : nameB t st.ok = true) (hk : Run ts (k t.text) ⟨st.i + 1, st.ok⟩ r st') : Run ts (nameC k) st r st' := .look ht (by rw [if_pos hb]; exact .adv hk)
theorem Run.name_no {k : List UInt8 → Cmd} (ht : ts[st.i]? = some t) (hb : nameB t st.ok = false) (hk : Run ts (k []) ⟨st.i, false⟩ r st') : Run ts (nameC k) st r st' := .look ht (by rw [if_neg (by rw [hb]; decide)]; exact .fail hk)
end
def mustS (t : Tok) (st : St) (s : List UInt8) : St := if isB t st.ok [s] = true then ⟨st.i + 1, st.ok⟩ else ⟨st.i, false⟩
def nameS (t : Tok) (st : St) : St := if nameB t st.ok = true then ⟨st.i + 1, st.ok⟩ else ⟨st.i, false⟩
def nameT (t : Tok) (st : St) : List UInt8 := if nameB t st.ok = true then t.text else []
theorem Run.must_ {ts : List Tok} {st st' : St} {r : Rs} {t : Tok} {s : List UInt8} {k : Cmd} (ht : ts[st.i]? = some t) (hk : Run ts k (mustS t st s) r st') : Run ts (mustC s k) st r st' := by
 unfold mustS at hk
 cases hb : isB t st.ok [s] with
 | true => rw [hb, if_pos rfl] at hk; exact .must_yes ht hb hk
 | false => rw [hb, if_neg (by decide)] at hk; exact .must_no ht hb hk
theorem Run.name_ {ts : List Tok} {st st' : St} {r : Rs} {t : Tok} {k : List UInt8 → Cmd} (ht : ts[st.i]? = some t) (hk : Run ts (k (nameT t st)) (nameS t st) r st') : Run ts (nameC k) st r st' := by
 unfold nameS nameT at hk
 cases hb : nameB t st.ok with
 | true => rw [hb, if_pos rfl, if_pos rfl] at hk; exact .name_yes ht hb hk
 | false => rw [hb, if_neg (by decide), if_neg (by decide)] at hk; exact .name_no ht hb hk
theorem isB_ok {t : Tok} {ok : Bool} {l : List (List UInt8)} (h : isB t ok l = true) : ok = true ∧ t.k ≠ 0 := by
 unfold isB wordT at h
 simp only [Bool.and_eq_true, Bool.or_eq_true, beq_iff_eq] at h
 exact ⟨h.1.1, by omega⟩
theorem StrsR.lit (w : World) (l : List (List UInt8)) (T : TypeId) : StrsR w.heap.size l (w.alloc (.cells (l.map fun s => Value.string ⟨s.toArray⟩).toArray T)) := by
 intro i x hx
 rw [cell_of (heap_new w _)]
 simp [hx]
theorem StrsR.one (w : World) (s : List UInt8) (T : TypeId) : StrsR w.heap.size [s] (w.alloc (.cells #[.string ⟨s.toArray⟩] T)) := by
 intro i x hx
 have hi : i = 0 := by
  rcases i with _ | i
  ·rfl
  ·simp at hx
 subst hi
 simp at hx
 subst hx
 rw [cell_of (heap_new w _)]; rfl
set_option maxHeartbeats 1000000 in
set_option maxRecDepth 100000 in
theorem may_no (s : List UInt8) (P g c : Nat) (ts : List Tok) (st : St) (t : Tok) (ht : ts[st.i]? = some t) (hb : isB t st.ok [s] = false) (w : World) (h : PSt P g c ts st w) (hE : EndOk ts) :
  Calls Tryz.prog 34 #[.pointer (some ⟨P, 0, none⟩), .string ⟨s.toArray⟩] w fun e w' => e = .returned (.bool false) ∧ Fr [] w w' := by
 have fa := (Fr.refl [] w).alloc (.cells #[.string ⟨s.toArray⟩] 9)
 have ci := fun cl => Lib.hid (is_any P g c ts st t ht w.heap.size cl [s] (by simp) (w.alloc (.cells #[.string ⟨s.toArray⟩] 9)) (h.fr fa) (StrsR.one w s _) (by simp) hE)
 rw [hb] at ci
 clear hb h hE ht
 go_enter Tryz.func34, Tryz.ntmps34
 go_wp2_with fail
 refine (ci _).out.mono ?_; rintro e x1 ⟨rfl, f1⟩; go_wp2_with fail
 go_ret
 exact ⟨rfl, fa.trans f1⟩
set_option maxHeartbeats 1000000 in
set_option maxRecDepth 100000 in
theorem may_yes (s : List UInt8) (P g c : Nat) (ts : List Tok) (st : St) (t : Tok) (ht : ts[st.i]? = some t) (hb : isB t st.ok [s] = true) (w : World) (h : PSt P g c ts st w) (hE : EndOk ts) :
  Calls Tryz.prog 34 #[.pointer (some ⟨P, 0, none⟩), .string ⟨s.toArray⟩] w fun e w' => e = .returned (.bool true) ∧ PSt P g c ts ⟨st.i + 1, st.ok⟩ w' ∧ Fr [P] w w' := by
 have fa := (Fr.refl [] w).alloc (.cells #[.string ⟨s.toArray⟩] 9)
 have ci := fun cl => Lib.hid (is_any P g c ts st t ht w.heap.size cl [s] (by simp) (w.alloc (.cells #[.string ⟨s.toArray⟩] 9)) (h.fr fa) (StrsR.one w s _) (by simp) hE)
 rw [hb] at ci
 have cn := fun w h => Lib.hid (next_any P g c ts st t ht (isB_ok hb).1 (isB_ok hb).2 w h hE)
 have H := Lib.hid h
 clear hb h hE ht
 go_enter Tryz.func34, Tryz.ntmps34
 go_wp2_with fail
 refine (ci _).out.mono ?_; rintro e x1 ⟨rfl, f1⟩; go_wp2_with fail
 refine (cn _ (H.out.fr (fa.trans f1))).out.mono ?_; rintro e x2 ⟨rfl, h2, f2⟩; go_wp2_with fail
 go_ret
 exact ⟨rfl, h2, ((fa.trans f1).mono (fun x hx => by cases hx)).trans f2⟩
set_option maxHeartbeats 1000000 in
set_option maxRecDepth 100000 in
theorem must_any (s : List UInt8) (P g c : Nat) (ts : List Tok) (st : St) (t : Tok) (ht : ts[st.i]? = some t) (w : World) (h : PSt P g c ts st w) (hE : EndOk ts) :
  Calls Tryz.prog 52 #[.pointer (some ⟨P, 0, none⟩), .string ⟨s.toArray⟩] w fun e w' => e = .returned (.tuple #[]) ∧ PSt P g c ts (mustS t st s) w' ∧ Fr [P] w w' := by
 unfold mustS
 cases hb : isB t st.ok [s] with
 | true =>
  rw [if_pos rfl]
  have cm := Lib.hid (may_yes s P g c ts st t ht hb w h hE)
  clear hb h hE ht
  go_enter Tryz.func52, Tryz.ntmps52
  go_wp2_with fail
  refine cm.out.mono ?_; rintro e x1 ⟨rfl, h1, f1⟩; go_wp2_with fail
  go_end0
  exact ⟨rfl, h1, f1⟩
 | false =>
  rw [if_neg (by decide)]
  have cm := Lib.hid (may_no s P g c ts st t ht hb w h hE)
  have cf := fun w h => Lib.hid (fail_any P g c ts st w h)
  have H := Lib.hid h
  clear hb h hE ht
  go_enter Tryz.func52, Tryz.ntmps52
  go_wp2_with fail
  refine cm.out.mono ?_; rintro e x1 ⟨rfl, f1⟩; go_wp2_with fail
  refine (cf _ (H.out.fr f1)).out.mono ?_; rintro e x2 ⟨rfl, h2, f2⟩; go_wp2_with fail
  go_end0
  exact ⟨rfl, h2, (f1.mono (fun x hx => by cases hx)).trans f2⟩
theorem tok_f0 (a b c d : Value) (w : World) : (Instr.field 46 (.agg #[a, b, c, d]) 0).run Tryz.prog w = .ok a w := by
 simp [Instr.field, asAgg, part, go_sem]
theorem tok_f1 (a b c d : Value) (w : World) : (Instr.field 46 (.agg #[a, b, c, d]) 1).run Tryz.prog w = .ok b w := by
 simp [Instr.field, asAgg, part, go_sem]
theorem tok_f2 (a b c d : Value) (w : World) : (Instr.field 46 (.agg #[a, b, c, d]) 2).run Tryz.prog w = .ok c w := by
 simp [Instr.field, asAgg, part, go_sem]
theorem tok_f3 (a b c d : Value) (w : World) : (Instr.field 46 (.agg #[a, b, c, d]) 3).run Tryz.prog w = .ok d w := by
 simp [Instr.field, asAgg, part, go_sem]
set_option maxHeartbeats 1000000 in
set_option maxRecDepth 100000 in
theorem name_any (P g c : Nat) (ts : List Tok) (st : St) (t : Tok) (ht : ts[st.i]? = some t) (w : World) (h : PSt P g c ts st w) (hE : EndOk ts) :
  Calls Tryz.prog 51 #[.pointer (some ⟨P, 0, none⟩)] w fun e w' => e = .returned (.string ⟨(nameT t st).toArray⟩) ∧ PSt P g c ts (nameS t st) w' ∧ Fr [P] w w' := by
 have cn := fun w h => Lib.hid (now_any P g c ts st t ht w h hE)
 have cf := fun w h => Lib.hid (fail_any P g c ts st w h)
 have H := Lib.hid h
 have hP := lt_of_heap h.blk
 have r0 := tok_f0
 have r2 := tok_f2
 obtain ⟨p0, p1, p2, _⟩ := cells3 h.blk
 unfold nameS nameT
 cases hok : st.ok with
 | false =>
  have e0 : nameB t false = false := rfl
  rw [e0, if_neg (by decide), if_neg (by decide)]
  rw [hok] at p2
  clear h hE ht hok e0
  go_enter Tryz.func51, Tryz.ntmps51
  go_wp2_with fail
  refine (cf _ H.out).out.mono ?_; rintro e x2 ⟨rfl, h2, f2⟩; go_wp2_with fail
  go_ret
  exact ⟨rfl, h2, f2⟩
 | true =>
  have e0 : nameB t true = (t.k == 1) := rfl
  rw [e0]
  rw [hok] at p2
  cases hk : (t.k == 1) with
  | false =>
   rw [if_neg (by decide), if_neg (by decide)]
   have hk2 : (t.k != 1) = true := by rw [bne, hk]; rfl
   clear h hE ht hok e0
   go_enter Tryz.func51, Tryz.ntmps51
   go_wp2_with fail
   refine (cn _ H.out).out.mono ?_; rintro e x1 ⟨rfl, f1⟩; go_wp2_with fail
   refine (cf _ (H.out.fr f1)).out.mono ?_; rintro e x2 ⟨rfl, h2, f2⟩; go_wp2_with fail
   go_ret
   exact ⟨rfl, h2, (f1.mono (fun x hx => by cases hx)).trans f2⟩
  | true =>
   rw [if_pos rfl, if_pos rfl]
   have hk2 : (t.k != 1) = false := by rw [bne, hk]; rfl
   have cx := fun w h => Lib.hid (next_any P g c ts st t ht hok (by have := beq_iff_eq.1 hk; omega) w h hE)
   rw [hok] at cx
   clear h hE ht hok e0
   go_enter Tryz.func51, Tryz.ntmps51
   go_wp2_with fail
   refine (cn _ H.out).out.mono ?_; rintro e x1 ⟨rfl, f1⟩; go_wp2_with fail
   refine (cx _ (H.out.fr f1)).out.mono ?_; rintro e x2 ⟨rfl, h2, f2⟩; go_wp2_with fail
   go_ret
   exact ⟨rfl, h2, (f1.mono (fun x hx => by cases hx)).trans f2⟩
end Go.Proofs.YtpjkfeehgookkaaGreatDoor
namespace Go.Proofs.YtpjkfeehgookkaaGreatDoor
open Go.RowKit
theorem cells8 {x : World} {B : Nat} {T : TypeId} {a0 a1 a2 a3 a4 a5 a6 a7 : Value} (h : x.heap[B]? = some (.cells #[a0, a1, a2, a3, a4, a5, a6, a7] T (0, 0))) : (x.cell? ⟨B, 0, none⟩ = some a0 ∧ x.cell? ⟨B, 1, none⟩ = some a1 ∧ x.cell? ⟨B, 2, none⟩ = some a2 ∧ x.cell? ⟨B, 3, none⟩ = some a3 ∧ x.cell? ⟨B, 4, none⟩ = some a4 ∧ x.cell? ⟨B, 5, none⟩ = some a5 ∧ x.cell? ⟨B, 6, none⟩ = some a6 ∧ x.cell? ⟨B, 7, none⟩ = some a7) ∧ x.frozen? ⟨B, 0, none⟩ = false ∧ x.frozen? ⟨B, 1, none⟩ = false ∧ x.frozen? ⟨B, 2, none⟩ = false ∧ x.frozen? ⟨B, 3, none⟩ = false ∧ x.frozen? ⟨B, 4, none⟩ = false ∧ x.frozen? ⟨B, 5, none⟩ = false ∧ x.frozen? ⟨B, 6, none⟩ = false ∧ x.frozen? ⟨B, 7, none⟩ = false :=
 ⟨⟨cell_of h 0, cell_of h 1, cell_of h 2, cell_of h 3, cell_of h 4, cell_of h 5, cell_of h 6, cell_of h 7⟩, frozen_of h 0, frozen_of h 1, frozen_of h 2, frozen_of h 3, frozen_of h 4, frozen_of h 5, frozen_of h 6, frozen_of h 7⟩
def st8 (x : World) (B : Nat) (a0 a1 a2 a3 a4 a5 a6 a7 : Value) : World := (((((((x.setCell ⟨B, 0, none⟩ a0).setCell ⟨B, 1, none⟩ a1).setCell ⟨B, 2, none⟩ a2).setCell ⟨B, 3, none⟩ a3).setCell ⟨B, 4, none⟩ a4).setCell ⟨B, 5, none⟩ a5).setCell ⟨B, 6, none⟩ a6).setCell ⟨B, 7, none⟩ a7
theorem st8_heap {x : World} {B : Nat} {T : TypeId} {o0 o1 o2 o3 o4 o5 o6 o7 : Value} (h : x.heap[B]? = some (.cells #[o0, o1, o2, o3, o4, o5, o6, o7] T (0, 0))) (a0 a1 a2 a3 a4 a5 a6 a7 : Value) : (st8 x B a0 a1 a2 a3 a4 a5 a6 a7).heap[B]? = some (.cells #[a0, a1, a2, a3, a4, a5, a6, a7] T (0, 0)) := by
 simp [st8, World.setCell, Array.getElem?_modify, h]
theorem st8_fr (x : World) (B : Nat) (a0 a1 a2 a3 a4 a5 a6 a7 : Value) : Fr [B] x (st8 x B a0 a1 a2 a3 a4 a5 a6 a7) := by
 unfold st8
 exact ((((((((Fr.refl [B] x).setCell (p := ⟨B, 0, none⟩) (.inl (by simp)) a0).setCell (p := ⟨B, 1, none⟩) (.inl (by simp)) a1).setCell (p := ⟨B, 2, none⟩) (.inl (by simp)) a2).setCell (p := ⟨B, 3, none⟩) (.inl (by simp)) a3).setCell (p := ⟨B, 4, none⟩) (.inl (by simp)) a4).setCell (p := ⟨B, 5, none⟩) (.inl (by simp)) a5).setCell (p := ⟨B, 6, none⟩) (.inl (by simp)) a6).setCell (p := ⟨B, 7, none⟩) (.inl (by simp)) a7
theorem st8_size (x : World) (B : Nat) (a0 a1 a2 a3 a4 a5 a6 a7 : Value) : (st8 x B a0 a1 a2 a3 a4 a5 a6 a7).heap.size = x.heap.size := by simp [st8, World.setCell]
theorem cells7 {x : World} {B : Nat} {T : TypeId} {a0 a1 a2 a3 a4 a5 a6 : Value} (h : x.heap[B]? = some (.cells #[a0, a1, a2, a3, a4, a5, a6] T (0, 0))) : (x.cell? ⟨B, 0, none⟩ = some a0 ∧ x.cell? ⟨B, 1, none⟩ = some a1 ∧ x.cell? ⟨B, 2, none⟩ = some a2 ∧ x.cell? ⟨B, 3, none⟩ = some a3 ∧ x.cell? ⟨B, 4, none⟩ = some a4 ∧ x.cell? ⟨B, 5, none⟩ = some a5 ∧ x.cell? ⟨B, 6, none⟩ = some a6) ∧ x.frozen? ⟨B, 0, none⟩ = false ∧ x.frozen? ⟨B, 1, none⟩ = false ∧ x.frozen? ⟨B, 2, none⟩ = false ∧ x.frozen? ⟨B, 3, none⟩ = false ∧ x.frozen? ⟨B, 4, none⟩ = false ∧ x.frozen? ⟨B, 5, none⟩ = false ∧ x.frozen? ⟨B, 6, none⟩ = false :=
 ⟨⟨cell_of h 0, cell_of h 1, cell_of h 2, cell_of h 3, cell_of h 4, cell_of h 5, cell_of h 6⟩, frozen_of h 0, frozen_of h 1, frozen_of h 2, frozen_of h 3, frozen_of h 4, frozen_of h 5, frozen_of h 6⟩
def st7 (x : World) (B : Nat) (a0 a1 a2 a3 a4 a5 a6 : Value) : World := ((((((x.setCell ⟨B, 0, none⟩ a0).setCell ⟨B, 1, none⟩ a1).setCell ⟨B, 2, none⟩ a2).setCell ⟨B, 3, none⟩ a3).setCell ⟨B, 4, none⟩ a4).setCell ⟨B, 5, none⟩ a5).setCell ⟨B, 6, none⟩ a6
theorem st7_heap {x : World} {B : Nat} {T : TypeId} {o0 o1 o2 o3 o4 o5 o6 : Value} (h : x.heap[B]? = some (.cells #[o0, o1, o2, o3, o4, o5, o6] T (0, 0))) (a0 a1 a2 a3 a4 a5 a6 : Value) : (st7 x B a0 a1 a2 a3 a4 a5 a6).heap[B]? = some (.cells #[a0, a1, a2, a3, a4, a5, a6] T (0, 0)) := by
 simp [st7, World.setCell, Array.getElem?_modify, h]
theorem st7_fr (x : World) (B : Nat) (a0 a1 a2 a3 a4 a5 a6 : Value) : Fr [B] x (st7 x B a0 a1 a2 a3 a4 a5 a6) := by
 unfold st7
 exact (((((((Fr.refl [B] x).setCell (p := ⟨B, 0, none⟩) (.inl (by simp)) a0).setCell (p := ⟨B, 1, none⟩) (.inl (by simp)) a1).setCell (p := ⟨B, 2, none⟩) (.inl (by simp)) a2).setCell (p := ⟨B, 3, none⟩) (.inl (by simp)) a3).setCell (p := ⟨B, 4, none⟩) (.inl (by simp)) a4).setCell (p := ⟨B, 5, none⟩) (.inl (by simp)) a5).setCell (p := ⟨B, 6, none⟩) (.inl (by simp)) a6
theorem st7_size (x : World) (B : Nat) (a0 a1 a2 a3 a4 a5 a6 : Value) : (st7 x B a0 a1 a2 a3 a4 a5 a6).heap.size = x.heap.size := by simp [st7, World.setCell]
theorem Sh.of_fr {w w' : World} {L : List Nat} {ok ok' : Nat → Prop} (hf : Fr L w w') (h : ∀ b, ok b → b < w.heap.size → ok' b ∧ b ∉ L) : Sh w w' ok ok' :=
 fun b hb hlt => ⟨(h b hb hlt).1, hf.block b hlt (h b hb hlt).2, Nat.lt_of_lt_of_le hlt hf.size⟩
theorem PSt.frL {P g c : Nat} {ts : List Tok} {st : St} {w w' : World} {L : List Nat} (h : PSt P g c ts st w) (hf : Fr L w w') (hP : P ∉ L) (hg : g ∉ L) : PSt P g c ts st w' :=
 ⟨hf.keep h.blk hP, h.rt.frL hf h.lt hg, Nat.lt_of_lt_of_le h.lt hf.size, h.ne, h.inb⟩
def ExOk (P g c : Nat) (ts : List Tok) (st : St) (cmd : Cmd) (w : World) (e : Ending) (w' : World) : Prop :=
 ∃ (k a : Int) (nm : List UInt8) (n : Int) (s : List UInt8) (ls : List (List UInt8)) (args : List ExprT) (arms : List (PatT × ExprT)) (A5 : Option Addr) (n5 c5 : Nat) (A6 : Option Addr) (n6 c6 : Nat) (A7 : Option Addr) (n7 c7 : Nat) (st' : St),
  e = .returned (.agg #[.int .i64 k, .int .i64 a, .string ⟨nm.toArray⟩, .int .i64 n, .string ⟨s.toArray⟩, .slice A5 n5 c5, .slice A6 n6 c6, .slice A7 n7 c7]) ∧ ExprAt w' (fun b => w.heap.size ≤ b) (.mk k a nm n s ls args arms) [.int .i64 k, .int .i64 a, .string ⟨nm.toArray⟩, .int .i64 n, .string ⟨s.toArray⟩, .slice A5 n5 c5, .slice A6 n6 c6, .slice A7 n7 c7] ∧
  Run ts cmd st (.e (.mk k a nm n s ls args arms)) st' ∧ PSt P g c ts st' w' ∧ Fr [P] w w'
def PaOk (P g c : Nat) (ts : List Tok) (st : St) (cmd : Cmd) (w : World) (e : Ending) (w' : World) : Prop :=
 ∃ (k a : Int) (nm : List UInt8) (n : Int) (s : List UInt8) (ls : List (List UInt8)) (args : List PatT) (A5 : Option Addr) (n5 c5 : Nat) (A6 : Option Addr) (n6 c6 : Nat) (st' : St),
  e = .returned (.agg #[.int .i64 k, .int .i64 a, .string ⟨nm.toArray⟩, .int .i64 n, .string ⟨s.toArray⟩, .slice A5 n5 c5, .slice A6 n6 c6]) ∧ PatAt w' (fun b => w.heap.size ≤ b) (.mk k a nm n s ls args) [.int .i64 k, .int .i64 a, .string ⟨nm.toArray⟩, .int .i64 n, .string ⟨s.toArray⟩, .slice A5 n5 c5, .slice A6 n6 c6] ∧
  Run ts cmd st (.p (.mk k a nm n s ls args)) st' ∧ PSt P g c ts st' w' ∧ Fr [P] w w'
def GE (ts : List Tok) (N lv : Nat) (nt : NT) (fid : FuncId) : Prop := ∀ (P g c : Nat) (st : St) (w : World), PSt P g c ts st w → 16 * (ts.length - st.i) + lv < N → Calls Tryz.prog fid #[.pointer (some ⟨P, 0, none⟩)] w (ExOk P g c ts st (body nt) w)
def GP (ts : List Tok) (N lv : Nat) (nt : PNT) (fid : FuncId) : Prop := ∀ (P g c : Nat) (st : St) (w : World), PSt P g c ts st w → 16 * (ts.length - st.i) + lv < N → Calls Tryz.prog fid #[.pointer (some ⟨P, 0, none⟩)] w (PaOk P g c ts st (bodyP nt) w)
theorem Run.els {ts : List Tok} {c d : Cmd} {st : St} {r : Rs} {st' : St} (h : Run ts d st r st') : Run ts (if false = true then c else d) st r st' := h
theorem Run.thn {ts : List Tok} {c d : Cmd} {st : St} {r : Rs} {st' : St} (h : Run ts c st r st') : Run ts (if true = true then c else d) st r st' := h
theorem tok_at {ts : List Tok} {i : Nat} (h : i < ts.length) : ∃ t, ts[i]? = some t := ⟨ts[i], List.getElem?_eq_getElem h⟩
theorem Run.le {ts : List Tok} {c : Cmd} {st : St} {r : Rs} {st' : St} (h : Run ts c st r st') : st.i ≤ st'.i := h.grows.1
structure AllE (ts : List Tok) (N : Nat) : Prop where
 fn : GE ts N 14 .fn 53
 seq : GE ts N 13 .seq 20
 item : GE ts N 12 .item 33
 or : GE ts N 11 .or 57
 and : GE ts N 10 .and 86
 cmp : GE ts N 9 .cmp 113
 sum : GE ts N 8 .sum 132
 prod : GE ts N 7 .prod 146
 unary : GE ts N 6 .unary 150
 app : GE ts N 5 .app 152
 post : GE ts N 4 .post 56
 atom : GE ts N 3 .atom 85
end Go.Proofs.YtpjkfeehgookkaaGreatDoor
namespace Go.Proofs.YtpjkfeehgookkaaGreatDoor
open Go.RowKit
def runF (ts : List Tok) : Nat → Cmd → St → Option (Rs × St)
 | 0, _, _ => none
 | _ + 1, .retE x, st => some (.e x, st)
 | _ + 1, .retP x, st => some (.p x, st)
 | f + 1, .look k, st => match ts[st.i]? with
  | some t => runF ts f (k t st.ok) st
  | none => none
 | f + 1, .ahead k, st => match aheadT ts st.i with
  | some t => runF ts f (k t) st
  | none => none
 | f + 1, .adv k, st => runF ts f k ⟨st.i + 1, st.ok⟩
 | f + 1, .fail k, st => runF ts f k ⟨st.i, false⟩
 | f + 1, .callE nt k, st => match runF ts f (body nt) st with
  | some (.e x, st1) => runF ts f (k x) st1
  | _ => none
 | f + 1, .callP nt k, st => match runF ts f (bodyP nt) st with
  | some (.p x, st1) => runF ts f (k x) st1
  | _ => none
theorem runF_run {ts : List Tok} : ∀ (f : Nat) (c : Cmd) (st : St) (r : Rs) (st' : St), runF ts f c st = some (r, st') → Run ts c st r st'
 | 0, _, _, _, _, h => by simp [runF] at h
 | f + 1, c, st, r, st', h => by
  cases c with
  | retE x => simp [runF] at h; obtain ⟨rfl, rfl⟩ := h; exact .retE
  | retP x => simp [runF] at h; obtain ⟨rfl, rfl⟩ := h; exact .retP
  | look k =>
   cases ht : ts[st.i]? with
   | none => simp [runF, ht] at h
   | some t => simp [runF, ht] at h; exact .look ht (runF_run f _ _ _ _ h)
  | ahead k =>
   cases ht : aheadT ts st.i with
   | none => simp [runF, ht] at h
   | some t => simp [runF, ht] at h; exact .ahead ht (runF_run f _ _ _ _ h)
  | adv k => simp [runF] at h; exact .adv (runF_run f _ _ _ _ h)
  | fail k => simp [runF] at h; exact .fail (runF_run f _ _ _ _ h)
  | callE nt k =>
   cases hb : runF ts f (body nt) st with
   | none => simp [runF, hb] at h
   | some q =>
    obtain ⟨q, st1⟩ := q
    cases q with
    | e x => simp [runF, hb] at h; exact .callE (runF_run f _ _ _ _ hb) (runF_run f _ _ _ _ h)
    | p x => simp [runF, hb] at h
  | callP nt k =>
   cases hb : runF ts f (bodyP nt) st with
   | none => simp [runF, hb] at h
   | some q =>
    obtain ⟨q, st1⟩ := q
    cases q with
    | e x => simp [runF, hb] at h
    | p x => simp [runF, hb] at h; exact .callP (runF_run f _ _ _ _ hb) (runF_run f _ _ _ _ h)
def brK (a : Int) (n : Tok) (t : Tok) (ok : Bool) : Cmd := if (t.k == 1 && (n.k == 7 && n.text == [61])) = true then (if ok = true then .callE (.recL a [] []) .retE else mustC [125] (.retE (.mk 12 a [] 0 [] [] [] []))) else
   .callE .seq fun x => mustC [119, 105, 116, 104] (nameC fun nm => mustC [61] (.callE .seq fun y => mustC [125] (.retE (.mk 13 a nm 0 [] [] [x, y] []))))
def Sane : Option (Tok × Bool) → Cmd → Prop
 | _, .retE _ => True
 | _, .retP _ => True
 | kn, .look k => ∀ t ok, (∀ p, kn = some p → p = (t, ok)) → Sane (some (t, ok)) (k t ok)
 | kn, .ahead k => (∃ a, k = fun n => .look (brK a n)) ∧ ∀ n, Sane kn (k n)
 | kn, .adv k => (∃ t, kn = some (t, true) ∧ t.k ≠ 0) ∧ Sane none k
 | _, .fail k => Sane none k
 | _, .callE _ k => ∀ x, Sane none (k x)
 | _, .callP _ k => ∀ x, Sane none (k x)
theorem Sane.weak {c : Cmd} (h : Sane none c) (kn : Option (Tok × Bool)) : Sane kn c := by
 induction c generalizing kn with
 | retE => trivial
 | retP => trivial
 | look k ih => intro t ok _; exact h t ok (fun p hp => by cases hp)
 | ahead k ih => exact ⟨h.1, fun n => ih n (h.2 n) kn⟩
 | adv k ih => obtain ⟨⟨t, ht, _⟩, _⟩ := h; cases ht
 | fail k ih => exact h
 | callE nt k ih => exact h
 | callP nt k ih => exact h
theorem isB_ok' {t : Tok} {ok : Bool} {l : List (List UInt8)} (h : isB t ok l = true) : ok = true ∧ t.k ≠ 0 := by
 unfold isB wordT at h
 simp only [Bool.and_eq_true, Bool.or_eq_true, beq_iff_eq] at h
 exact ⟨h.1.1, by omega⟩
theorem nameB_ok {t : Tok} {ok : Bool} (h : nameB t ok = true) : ok = true ∧ t.k = 1 := by
 unfold nameB at h
 simpa using h
theorem begins_ok' {t : Tok} {ok : Bool} (h : beginsB t ok = true) : ok = true ∧ t.k ≠ 0 := by
 unfold beginsB at h
 simp only [Bool.or_eq_true, Bool.and_eq_true, beq_iff_eq] at h
 rcases h with h | h
 ·exact ⟨h.1, by omega⟩
 ·exact isB_ok' h
theorem sane_adv {t : Tok} {ok : Bool} {c : Cmd} (hok : ok = true) (hk : t.k ≠ 0) (h : Sane none c) : Sane (some (t, ok)) (.adv c) := ⟨⟨t, by rw [hok], hk⟩, h⟩
theorem sane_may {s : List UInt8} {k : Bool → Cmd} {kn : Option (Tok × Bool)} (h : ∀ b, Sane none (k b)) : Sane kn (mayC s k) := by
 intro t ok _
 show Sane _ (if _ then _ else _)
 split
 ·rename_i hb
  exact sane_adv (isB_ok' hb).1 (isB_ok' hb).2 (h true)
 ·exact (h false).weak _
theorem sane_must {s : List UInt8} {k : Cmd} {kn : Option (Tok × Bool)} (h : Sane none k) : Sane kn (mustC s k) := by
 intro t ok _
 show Sane _ (if _ then _ else _)
 split
 ·rename_i hb
  exact sane_adv (isB_ok' hb).1 (isB_ok' hb).2 h
 ·exact h
theorem sane_name {k : List UInt8 → Cmd} {kn : Option (Tok × Bool)} (h : ∀ s, Sane none (k s)) : Sane kn (nameC k) := by
 intro t ok _
 show Sane _ (if _ then _ else _)
 split
 ·rename_i hb
  exact sane_adv (nameB_ok hb).1 (by have := (nameB_ok hb).2; omega) (h _)
 ·exact h _
theorem sane_is {l : List (List UInt8)} {k : Bool → Cmd} {kn : Option (Tok × Bool)} (h : ∀ b, Sane none (k b)) : Sane kn (isC l k) := fun _ _ _ => (h _).weak _
theorem sane_ite {p : Prop} [Decidable p] {c d : Cmd} {kn : Option (Tok × Bool)} (h1 : p → Sane kn c) (h2 : ¬ p → Sane kn d) : Sane kn (if p then c else d) := by
 split
 ·exact h1 (by assumption)
 ·exact h2 (by assumption)
theorem saneP (nt : PNT) : Sane none (bodyP nt) := by
 cases nt with
 | pat =>
  intro t ok _
  refine sane_ite (fun h => ?_) (fun _ => fun x => trivial)
  simp only [Bool.and_eq_true, beq_iff_eq] at h
  exact sane_adv h.1 (by omega) (fun x => trivial)
 | patom =>
  intro t ok _
  refine sane_ite (fun h => trivial) (fun hok => ?_)
  have hok : ok = true := by simpa using hok
  refine sane_ite (fun h => sane_adv hok (by omega) trivial) (fun _ => sane_ite (fun h => sane_adv hok (by omega) trivial) (fun _ => sane_ite (fun h => sane_adv hok (by omega) trivial) (fun _ => sane_ite (fun h => sane_adv hok (by omega) trivial) (fun _ => fun x => trivial))))
 | marked x =>
  obtain ⟨k, a, nm, n, s, ls, args⟩ := x
  unfold bodyP
  refine sane_may fun b => sane_ite (fun _ => ?_) (fun _ => sane_may fun b => sane_ite (fun _ => trivial) (fun _ => sane_may fun b => sane_ite (fun _ => trivial) (fun _ => sane_may fun b => sane_ite (fun _ => ?_) (fun _ => sane_may fun b => sane_ite (fun _ => ?_) (fun _ => trivial)))))
  ·intro t ok _
   exact sane_ite (fun hk => sane_ite (fun hok => sane_adv hok (by omega) trivial) (fun _ => trivial)) (fun _ => trivial)
  ·exact sane_may fun b => sane_ite (fun _ => trivial) (fun _ => fun x => sane_must trivial)
  ·exact sane_may fun b => sane_ite (fun _ => trivial) (fun _ => fun t ok _ => sane_ite (fun _ => fun x => trivial) (fun _ => sane_must trivial))
 | recL a ls args =>
  unfold bodyP
  exact sane_name fun s => sane_must fun p => sane_may fun b => sane_ite (fun _ => fun x => trivial) (fun _ => sane_must trivial)
theorem saneE (nt : NT) : Sane none (body nt) := by
 cases nt with
 | seq => exact fun x t ok _ => sane_may fun b => sane_ite (fun _ => fun x => trivial) (fun _ => trivial)
 | item =>
  refine fun t ok _ => sane_may fun b => sane_ite (fun _ => ?_) (fun _ => sane_is fun b => sane_ite (fun _ => fun x => trivial) (fun _ => sane_may fun b => sane_ite (fun _ => fun x => trivial) (fun _ => sane_may fun b => sane_ite (fun _ => fun x => trivial) (fun _ => sane_may fun b => sane_ite (fun _ => ?_) (fun _ => sane_may fun b => sane_ite (fun _ => fun x => trivial) (fun _ => ?_))))))
  ·exact sane_may fun r => sane_name fun s => sane_must fun x => sane_must fun y => trivial
  ·exact fun x => sane_must fun y => sane_must fun z => trivial
  ·exact fun x t ok _ => sane_may fun b => sane_ite (fun _ => fun x => trivial) (fun _ => trivial)
 | fn => exact fun t ok _ => sane_must (sane_name fun s => sane_must fun x => trivial)
 | arms k a => exact fun x => sane_must fun t ok _ => sane_ite (fun _ => fun x => trivial) (fun _ => sane_must trivial)
 | armsL k a x acc => exact fun p => sane_must fun y => sane_may fun b => sane_ite (fun _ => fun x => trivial) (fun _ => sane_must trivial)
 | or => exact fun x t ok _ => sane_may fun b => sane_ite (fun _ => fun x => trivial) (fun _ => trivial)
 | and => exact fun x t ok _ => sane_may fun b => sane_ite (fun _ => fun x => trivial) (fun _ => trivial)
 | cmp => exact fun x t ok _ => sane_ite (fun h => sane_adv (isB_ok' h).1 (isB_ok' h).2 (fun x => trivial)) (fun _ => trivial)
 | sum => exact fun x y => trivial
 | sumL a => exact fun t ok _ => sane_ite (fun h => sane_adv (isB_ok' h).1 (isB_ok' h).2 (fun x y => trivial)) (fun _ => trivial)
 | prod => exact fun x y => trivial
 | prodL a => exact fun t ok _ => sane_ite (fun h => sane_adv (isB_ok' h).1 (isB_ok' h).2 (fun x y => trivial)) (fun _ => trivial)
 | unary => exact fun t ok _ => sane_may fun b => sane_ite (fun _ => fun x => trivial) (fun _ => sane_may fun b => sane_ite (fun _ => fun x => trivial) (fun _ => fun x => trivial))
 | app =>
  intro t ok _
  refine sane_ite (fun h => ?_) (fun _ => sane_ite (fun h => ?_) (fun _ => fun x y => trivial))
  ·simp only [Bool.and_eq_true, beq_iff_eq] at h
   exact sane_adv h.1 (by omega) (fun x => trivial)
  ·simp only [Bool.and_eq_true, beq_iff_eq] at h
   exact sane_adv h.1.1 (by omega) (fun x => trivial)
 | opL n a m acc => cases m with
  | zero => trivial
  | succ m => exact fun x y => trivial
 | appL a => exact fun t ok _ => sane_ite (fun _ => fun x y => trivial) (fun _ => trivial)
 | post => exact fun t ok _ => sane_may fun b => sane_ite (fun _ => fun x => trivial) (fun _ => fun x y => trivial)
 | postL a => exact fun t ok _ => sane_ite (fun h => sane_adv (isB_ok' h).1 (isB_ok' h).2 (sane_name fun s => fun x => trivial)) (fun _ => trivial)
 | atom =>
  intro t ok _
  refine sane_ite (fun h => ?_) (fun _ => trivial)
  simp only [Bool.and_eq_true] at h
  refine sane_adv (begins_ok' h.1).1 (begins_ok' h.1).2 ?_
  repeat refine sane_ite (fun _ => (by first | trivial | exact fun x => trivial)) (fun _ => ?_)
  exact sane_may fun b => sane_ite (fun _ => trivial) (fun _ => fun x => sane_must trivial)
 | braces a =>
  unfold body
  refine sane_may fun b => sane_ite (fun _ => trivial) (fun _ => ⟨⟨a, rfl⟩, fun n t ok _ => ?_⟩)
  exact sane_ite (fun _ => sane_ite (fun _ => fun x => trivial) (fun _ => sane_must trivial)) (fun _ => fun x => sane_must (sane_name fun s => sane_must fun y => sane_must trivial))
 | recL a ls args =>
  unfold body
  exact sane_name fun s => sane_must fun x => sane_may fun b => sane_ite (fun _ => fun x => trivial) (fun _ => sane_must trivial)
def Kn (ts : List Tok) (st : St) (kn : Option (Tok × Bool)) : Prop := ∀ p, kn = some p → ts[st.i]? = some p.1 ∧ st.ok = p.2
theorem Kn.none_ (ts : List Tok) (st : St) : Kn ts st none := fun p h => by cases h
theorem Kn.see {ts : List Tok} {st : St} {t : Tok} (h : ts[st.i]? = some t) : Kn ts st (some (t, st.ok)) := fun p hp => by cases hp; exact ⟨h, rfl⟩
theorem Kn.to {ts : List Tok} {st : St} {t : Tok} {kn : Option (Tok × Bool)} (hk : Kn ts st kn) (h : ts[st.i]? = some t) : ∀ p, kn = some p → p = (t, st.ok) := fun p hp => by
 obtain ⟨h1, h2⟩ := hk p hp
 rw [h] at h1
 cases h1
 rw [h2]
theorem Run.stuck {ts : List Tok} {c : Cmd} {st : St} {r : Rs} {st' : St} (h : Run ts c st r st') : ∀ {kn : Option (Tok × Bool)}, Sane kn c → Kn ts st kn → st.ok = false → st' = st := by
 induction h with
 | retE => intros; rfl
 | retP => intros; rfl
 | look h hk ih => intro kn hs hkn hok; exact ih (hs _ _ (hkn.to h)) (Kn.see h) hok
 | ahead h hk ih => intro kn hs hkn hok; exact ih (hs.2 _) hkn hok
 | adv hk ih =>
  intro kn hs hkn hok
  obtain ⟨⟨t, ht, _⟩, _⟩ := hs
  have := (hkn _ ht).2
  rw [hok] at this
  cases this
 | @fail k st r st' hk ih =>
  intro kn hs hkn hok
  have := ih hs (Kn.none_ _ _) rfl
  rw [this]
  cases st
  simp only at hok
  rw [hok]
 | callE h hk ih1 ih2 =>
  intro kn hs hkn hok
  have e1 := ih1 (saneE _) (Kn.none_ _ _) hok
  subst e1
  exact ih2 (hs _) (Kn.none_ _ _) hok
 | callP h hk ih1 ih2 =>
  intro kn hs hkn hok
  have e1 := ih1 (saneP _) (Kn.none_ _ _) hok
  subst e1
  exact ih2 (hs _) (Kn.none_ _ _) hok
theorem isB_name {t : Tok} (h : t.k = 1) (ok : Bool) (l : List (List UInt8)) : isB t ok l = false := by
 unfold isB wordT
 rw [h]
 cases ok <;> rfl
def Takes (ts : List Tok) (i : Nat) (c : Cmd) : Prop := ∀ r st', Run ts c ⟨i, true⟩ r st' → i < st'.i
theorem Takes.callE {ts : List Tok} {i : Nat} {nt : NT} {k : ExprT → Cmd} (h : Takes ts i (body nt)) : Takes ts i (.callE nt k) := by
 intro r st' hr
 cases hr with
 | callE h1 hk => exact Nat.lt_of_lt_of_le (h _ _ h1) hk.grows.1
theorem Takes.look {ts : List Tok} {i : Nat} {t : Tok} (ht : ts[i]? = some t) {k : Tok → Bool → Cmd} (h : Takes ts i (k t true)) : Takes ts i (.look k) := by
 intro r st' hr
 cases hr with
 | look h1 hk => rw [ht] at h1; cases h1; exact h _ _ hk
theorem Takes.adv {ts : List Tok} {i : Nat} {k : Cmd} : Takes ts i (.adv k) := by
 intro r st' hr
 cases hr with
 | adv hk => exact hk.grows.1
theorem Takes.may {ts : List Tok} {i : Nat} {t : Tok} (ht : ts[i]? = some t) (hk : t.k = 1) {s : List UInt8} {k : Bool → Cmd} (h : Takes ts i (k false)) : Takes ts i (mayC s k) :=
 .look ht (by rw [isB_name hk, if_neg (by decide)]; exact h)
theorem Takes.is {ts : List Tok} {i : Nat} {t : Tok} (ht : ts[i]? = some t) (hk : t.k = 1) {l : List (List UInt8)} {k : Bool → Cmd} (h : Takes ts i (k false)) : Takes ts i (isC l k) :=
 .look ht (by rw [isB_name hk]; exact h)
section
variable {ts : List Tok} {i : Nat} {t : Tok} (ht : ts[i]? = some t) (hk : t.k = 1)
include ht hk
theorem takes_atom : Takes ts i (body .atom) := by
 refine .look ht ?_
 have hb : beginsB t true = true := by unfold beginsB; rw [hk]; rfl
 rw [hb, isB_name hk, if_pos (by rfl)]
 exact .adv
theorem takes_post : Takes ts i (body .post) := .look ht (.may ht hk (by rw [if_neg (by decide)]; exact .callE (takes_atom ht hk)))
theorem takes_app : Takes ts i (body .app) := by
 refine .look ht ?_
 rw [hk, if_neg (by decide), if_neg (by simp)]
 exact .callE (takes_post ht hk)
theorem takes_unary : Takes ts i (body .unary) := .look ht (.may ht hk (by rw [if_neg (by decide)]; exact .may ht hk (by rw [if_neg (by decide)]; exact .callE (takes_app ht hk))))
theorem takes_prod : Takes ts i (body .prod) := .callE (takes_unary ht hk)
theorem takes_sum : Takes ts i (body .sum) := .callE (takes_prod ht hk)
theorem takes_cmp : Takes ts i (body .cmp) := .callE (takes_sum ht hk)
theorem takes_and : Takes ts i (body .and) := .callE (takes_cmp ht hk)
theorem takes_or : Takes ts i (body .or) := .callE (takes_and ht hk)
theorem takes_item : Takes ts i (body .item) := by
 refine .look ht (.may ht hk ?_)
 rw [if_neg (by decide)]
 refine .is ht hk ?_
 rw [if_neg (by decide)]
 refine .may ht hk ?_
 rw [if_neg (by decide)]
 refine .may ht hk ?_
 rw [if_neg (by decide)]
 refine .may ht hk ?_
 rw [if_neg (by decide)]
 refine .may ht hk ?_
 rw [if_neg (by decide)]
 exact .callE (takes_or ht hk)
theorem takes_seq : Takes ts i (body .seq) := .callE (takes_item ht hk)
theorem takes_brK (a : Int) (n : Tok) : Takes ts i (.look (brK a n)) := by
 refine .look ht ?_
 unfold brK
 split
 ·rw [if_pos rfl]
  refine .callE ?_
  unfold body
  exact .look ht (by unfold nameB; rw [hk]; exact .adv)
 ·exact .callE (takes_seq ht hk)
end
theorem takes_begins {ts : List Tok} {st : St} {u : Tok} {r : Rs} {st' : St} (hu : ts[st.i]? = some u) (hb : beginsB u st.ok = true) (h : Run ts (body .post) st r st') : st.i < st'.i := by
 obtain ⟨i, ok⟩ := st
 have hok : ok = true := (begins_ok' hb).1
 subst hok
 have hu : ts[i]? = some u := hu
 have hb : beginsB u true = true := hb
 refine (show Takes ts i (body .post) from .look hu (.look hu ?_)) _ _ h
 split
 ·exact .adv
 ·rename_i h33
  show Takes ts i (.callE .atom fun a => .callE (.postL a) .retE)
  refine .callE (.look hu ?_)
  have h33 : isB u true [[33]] = false := by simpa using h33
  rw [hb, h33, if_pos (by rfl)]
  exact .adv
def EndsT (ts : List Tok) : Prop := ∀ (j : Nat) (t : Tok), ts[j]? = some t → t.k ≠ 0 → j + 1 < ts.length
theorem aheadT_eq {ts : List Tok} (h : EndsT ts) {j : Nat} {t : Tok} (ht : ts[j]? = some t) (hk : t.k ≠ 0) : aheadT ts j = ts[j + 1]? := by
 unfold aheadT
 have := h j t ht hk
 rw [Nat.min_eq_left (by omega)]
theorem brK_eq {a : Int} {n n' t : Tok} (h : t.k ≠ 1) (ok : Bool) : brK a n t ok = brK a n' t ok := by
 unfold brK
 have : (t.k == 1) = false := beq_eq_false_iff_ne.2 h
 rw [this]
 rfl
theorem Run.lock {ts ts2 : List Tok} (hE : EndsT ts) (hE2 : EndsT ts2) {c : Cmd} {st : St} {r : Rs} {st' : St} (h : Run ts c st r st') : ∀ {kn : Option (Tok × Bool)}, Sane kn c → Kn ts st kn →
  (∀ j, j ≤ st'.i → ts2[j]? = ts[j]?) → ∀ {r2 : Rs} {st2 : St}, Run ts2 c st r2 st2 → st2 = st' ∧ (st'.ok = true → r2 = r) := by
 induction h with
 | retE => intro kn _ _ _ r2 st2 h2; cases h2; exact ⟨rfl, fun _ => rfl⟩
 | retP => intro kn _ _ _ r2 st2 h2; cases h2; exact ⟨rfl, fun _ => rfl⟩
 | look h hk ih =>
  intro kn hs hkn hj r2 st2 h2
  cases h2 with
  | look h' hk' =>
   rw [hj _ hk.grows.1, h] at h'
   cases h'
   exact ih (hs _ _ (hkn.to h)) (Kn.see h) hj hk'
 | @ahead k n st r st' h hk ih =>
  intro kn hs hkn hj r2 st2 h2
  cases h2 with
  | @ahead _ n' _ _ _ h' hk' =>
   obtain ⟨⟨a, rfl⟩, hs2⟩ := hs
   by_cases hok : st.ok = true
   ·have hl := hk
    cases hl with
    | @look _ t _ _ _ ht hl =>
     by_cases htk : t.k = 1
     ·obtain ⟨i, ok⟩ := st
      have hok : ok = true := hok
      have ht : ts[i]? = some t := ht
      subst hok
      have hlt := takes_brK ht htk a n _ _ hk
      rw [aheadT_eq hE ht (by omega)] at h
      rw [aheadT_eq hE2 ((hj _ (by simp only at *; omega)).trans ht) (by omega)] at h'
      simp only at h h'
      rw [hj _ (by simp only at *; omega), h] at h'
      cases h'
      exact ih (hs2 _) hkn hj hk'
     ·cases hk' with
      | look ht' hl' =>
       have ht2 := ht'
       rw [hj _ hl.grows.1, ht] at ht2
       cases ht2
       rw [brK_eq htk (n' := n)] at hl'
       exact ih (hs2 _) hkn hj (.look ht' hl')
   ·have hok : st.ok = false := by simpa using hok
    have e1 := Run.stuck hk (hs2 _) hkn hok
    subst e1
    have hkn' : Kn ts2 st' kn := fun p hp => ⟨(hj _ (Nat.le_refl _)).trans (hkn p hp).1, (hkn p hp).2⟩
    exact ⟨Run.stuck hk' (hs2 _) hkn' hok, fun h => by rw [hok] at h; cases h⟩
 | adv hk ih =>
  intro kn hs hkn hj r2 st2 h2
  cases h2 with
  | adv hk' => exact ih hs.2 (Kn.none_ _ _) hj hk'
 | fail hk ih =>
  intro kn hs hkn hj r2 st2 h2
  cases h2 with
  | fail hk' => exact ih hs (Kn.none_ _ _) hj hk'
 | @callE nt k st x st1 r st' h hk ih1 ih2 =>
  intro kn hs hkn hj r2 st2 h2
  cases h2 with
  | @callE _ _ _ x' st1' _ _ h' hk' =>
   obtain ⟨e1, e2⟩ := ih1 (saneE _) (Kn.none_ _ _) (fun j hle => hj j (Nat.le_trans hle hk.grows.1)) h'
   subst e1
   by_cases hok : st1'.ok = true
   ·cases e2 hok
    exact ih2 (hs _) (Kn.none_ _ _) hj hk'
   ·have hok : st1'.ok = false := by simpa using hok
    have e3 := Run.stuck hk (hs _) (Kn.none_ _ _) hok
    have e4 := Run.stuck hk' (hs _) (Kn.none_ _ _) hok
    subst e3
    exact ⟨e4, fun h => by rw [hok] at h; cases h⟩
 | @callP nt k st x st1 r st' h hk ih1 ih2 =>
  intro kn hs hkn hj r2 st2 h2
  cases h2 with
  | @callP _ _ _ x' st1' _ _ h' hk' =>
   obtain ⟨e1, e2⟩ := ih1 (saneP _) (Kn.none_ _ _) (fun j hle => hj j (Nat.le_trans hle hk.grows.1)) h'
   subst e1
   by_cases hok : st1'.ok = true
   ·cases e2 hok
    exact ih2 (hs _) (Kn.none_ _ _) hj hk'
   ·have hok : st1'.ok = false := by simpa using hok
    have e3 := Run.stuck hk (hs _) (Kn.none_ _ _) hok
    have e4 := Run.stuck hk' (hs _) (Kn.none_ _ _) hok
    subst e3
    exact ⟨e4, fun h => by rw [hok] at h; cases h⟩
end Go.Proofs.YtpjkfeehgookkaaGreatDoor
namespace Go.Proofs.YtpjkfeehgookkaaGreatDoor
open Go.RowKit
mutual
def partsP : PatT → Nat → List (Int × Nat)
 | .mk _ a _ _ _ _ args, d => (a, d) :: partsPs args (d + 1)
def partsPs : List PatT → Nat → List (Int × Nat)
 | [], _ => []
 | x :: l, d => partsP x d ++ partsPs l d
end
mutual
def partsE : ExprT → Nat → List (Int × Nat)
 | .mk _ a _ _ _ _ args arms, d => (a, d) :: (partsEs args (d + 1) ++ partsAs arms (d + 1))
def partsEs : List ExprT → Nat → List (Int × Nat)
 | [], _ => []
 | x :: l, d => partsE x d ++ partsEs l d
def partsAs : List (PatT × ExprT) → Nat → List (Int × Nat)
 | [], _ => []
 | x :: l, d => partsA x d ++ partsAs l d
def partsA : PatT × ExprT → Nat → List (Int × Nat)
 | (p, x), d => partsP p d ++ partsE x d
end
mutual
def szP : PatT → Nat
 | .mk _ _ _ _ _ _ args => 1 + szPs args
def szPs : List PatT → Nat
 | [] => 0
 | x :: l => szP x + szPs l
end
mutual
def szE : ExprT → Nat
 | .mk _ _ _ _ _ _ args arms => 1 + (szEs args + szAs arms)
def szEs : List ExprT → Nat
 | [] => 0
 | x :: l => szE x + szEs l
def szAs : List (PatT × ExprT) → Nat
 | [] => 0
 | x :: l => szA x + szAs l
def szA : PatT × ExprT → Nat
 | (p, x) => szP p + szE x
end
theorem szPs_app (l m : List PatT) : szPs (l ++ m) = szPs l + szPs m := by
 induction l with
 | nil => simp [szPs]
 | cons x l ih => simp [szPs, ih]; omega
theorem szEs_app (l m : List ExprT) : szEs (l ++ m) = szEs l + szEs m := by
 induction l with
 | nil => simp [szEs]
 | cons x l ih => simp [szEs, ih]; omega
theorem szAs_app (l m : List (PatT × ExprT)) : szAs (l ++ m) = szAs l + szAs m := by
 induction l with
 | nil => simp [szAs]
 | cons x l ih => simp [szAs, ih]; omega
theorem szPs_get {l : List PatT} {i : Nat} {x : PatT} (h : l[i]? = some x) : szP x ≤ szPs l := by
 induction l generalizing i with
 | nil => simp at h
 | cons y l ih =>
  cases i with
  | zero => simp at h; subst h; simp [szPs]
  | succ i => simp at h; have := ih h; simp [szPs]; omega
theorem szEs_get {l : List ExprT} {i : Nat} {x : ExprT} (h : l[i]? = some x) : szE x ≤ szEs l := by
 induction l generalizing i with
 | nil => simp at h
 | cons y l ih =>
  cases i with
  | zero => simp at h; subst h; simp [szEs]
  | succ i => simp at h; have := ih h; simp [szEs]; omega
theorem szAs_get {l : List (PatT × ExprT)} {i : Nat} {p : PatT} {x : ExprT} (h : l[i]? = some (p, x)) : szP p + szE x ≤ szAs l := by
 induction l generalizing i with
 | nil => simp at h
 | cons y l ih =>
  cases i with
  | zero => simp at h; subst h; simp [szAs, szA]
  | succ i => simp at h; have := ih h; simp [szAs]; omega
theorem szPs_ge (l : List PatT) : l.length ≤ szPs l := by
 induction l with
 | nil => simp
 | cons x l ih => cases x; simp [szPs, szP]; omega
theorem szEs_ge (l : List ExprT) : l.length ≤ szEs l := by
 induction l with
 | nil => simp
 | cons x l ih => cases x; simp [szEs, szE]; omega
theorem szAs_ge (l : List (PatT × ExprT)) : l.length ≤ szAs l := by
 induction l with
 | nil => simp
 | cons x l ih => obtain ⟨p, x⟩ := x; cases x; cases p; simp [szAs, szA, szE, szP]; omega
theorem szP_pos (x : PatT) : 0 < szP x := by cases x; simp [szP]; omega
theorem szE_pos (x : ExprT) : 0 < szE x := by cases x; simp [szE]; omega
theorem partsPs_drop {l : List PatT} {i : Nat} {x : PatT} (h : l[i]? = some x) (d : Nat) : partsPs (l.drop i) d = partsP x d ++ partsPs (l.drop (i + 1)) d := by
 obtain ⟨hi, he⟩ := List.getElem?_eq_some_iff.1 h
 rw [List.drop_eq_getElem_cons hi, he]
 simp [partsPs]
theorem partsEs_drop {l : List ExprT} {i : Nat} {x : ExprT} (h : l[i]? = some x) (d : Nat) : partsEs (l.drop i) d = partsE x d ++ partsEs (l.drop (i + 1)) d := by
 obtain ⟨hi, he⟩ := List.getElem?_eq_some_iff.1 h
 rw [List.drop_eq_getElem_cons hi, he]
 simp [partsEs]
theorem partsAs_drop {l : List (PatT × ExprT)} {i : Nat} {p : PatT} {x : ExprT} (h : l[i]? = some (p, x)) (d : Nat) : partsAs (l.drop i) d = partsP p d ++ (partsE x d ++ partsAs (l.drop (i + 1)) d) := by
 obtain ⟨hi, he⟩ := List.getElem?_eq_some_iff.1 h
 rw [List.drop_eq_getElem_cons hi, he]
 simp [partsAs, partsA]
mutual
theorem partsP_len : ∀ (x : PatT) (d : Nat), (partsP x d).length = szP x
 | .mk _ _ _ _ _ _ args, d => by simp [partsP, szP, partsPs_len args (d + 1)]; omega
theorem partsPs_len : ∀ (l : List PatT) (d : Nat), (partsPs l d).length = szPs l
 | [], d => by simp [partsPs, szPs]
 | x :: l, d => by simp [partsPs, szPs, partsP_len x d, partsPs_len l d]
end
mutual
theorem partsE_len : ∀ (x : ExprT) (d : Nat), (partsE x d).length = szE x
 | .mk _ _ _ _ _ _ args arms, d => by simp [partsE, szE, partsEs_len args (d + 1), partsAs_len arms (d + 1)]; omega
theorem partsEs_len : ∀ (l : List ExprT) (d : Nat), (partsEs l d).length = szEs l
 | [], d => by simp [partsEs, szEs]
 | x :: l, d => by simp [partsEs, szEs, partsE_len x d, partsEs_len l d]
theorem partsAs_len : ∀ (l : List (PatT × ExprT)) (d : Nat), (partsAs l d).length = szAs l
 | [], d => by simp [partsAs, szAs]
 | x :: l, d => by simp [partsAs, szAs, partsA_len x d, partsAs_len l d]
theorem partsA_len : ∀ (x : PatT × ExprT) (d : Nat), (partsA x d).length = szA x
 | (p, x), d => by simp [partsA, szA, partsP_len p d, partsE_len x d]
end
theorem partsP_mk (k a : Int) (nm : List UInt8) (n : Int) (s : List UInt8) (ls : List (List UInt8)) (args : List PatT) (d : Nat) : partsP (.mk k a nm n s ls args) d = (a, d) :: partsPs args (d + 1) := by simp [partsP]
theorem partsE_mk (k a : Int) (nm : List UInt8) (n : Int) (s : List UInt8) (ls : List (List UInt8)) (args : List ExprT) (arms : List (PatT × ExprT)) (d : Nat) : partsE (.mk k a nm n s ls args arms) d = (a, d) :: (partsEs args (d + 1) ++ partsAs arms (d + 1)) := by simp [partsE]
def goL {σ : Type} (f : σ → Int × Nat → σ × Bool) : σ → List (Int × Nat) → σ × Bool
 | s, [] => (s, true)
 | s, x :: l => if (f s x).2 = true then goL f (f s x).1 l else ((f s x).1, false)
theorem goL_app {σ : Type} (f : σ → Int × Nat → σ × Bool) (l m : List (Int × Nat)) : ∀ s, goL f s (l ++ m) = if (goL f s l).2 = true then goL f (goL f s l).1 m else ((goL f s l).1, false) := by
 induction l with
 | nil => intro s; simp [goL]
 | cons x l ih =>
  intro s
  rw [List.cons_append, goL, goL]
  split
  ·exact ih _
  ·simp
def cntF (most : Int) (s : Int) (_ : Int × Nat) : Int × Bool := (s + 1, decide (s + 1 ≤ most))
def deepF (most : Int) (s : Int × Bool) (p : Int × Nat) : (Int × Bool) × Bool := if (most < (p.2 : Int)) then ((p.1, true), false) else (s, !s.2)
theorem cnt_go (most : Int) (l : List (Int × Nat)) : ∀ s, s ≤ most → goL (cntF most) s l = (min (s + l.length) (most + 1), decide (s + l.length ≤ most)) := by
 induction l with
 | nil => intro s h; simp [goL]; omega
 | cons x l ih =>
  intro s h
  rw [goL]
  show (if decide (s + 1 ≤ most) = true then goL (cntF most) (s + 1) l else (s + 1, false)) = _
  by_cases h1 : s + 1 ≤ most
  ·rw [if_pos (by simpa using h1), ih _ h1]
   simp only [List.length_cons, Prod.mk.injEq, decide_eq_decide]
   constructor <;> omega
  ·rw [if_neg (by simpa using h1)]
   simp only [List.length_cons, Prod.mk.injEq]
   refine ⟨by omega, ?_⟩
   symm
   rw [decide_eq_false_iff_not]
   omega
theorem deep_go (most : Int) (l : List (Int × Nat)) : ∀ a, goL (deepF most) (a, false) l = match l.find? (fun p => decide (most < (p.2 : Int))) with
  | some p => ((p.1, true), false)
  | none => ((a, false), true) := by
 induction l with
 | nil => intro a; simp [goL]
 | cons x l ih =>
  intro a
  rw [goL, List.find?_cons]
  unfold deepF
  by_cases h : most < (x.2 : Int)
  ·simp [h]
  ·simp only [h, if_false, decide_false]
   exact ih a
theorem cnt_ok {most σ : Int} {l : List (Int × Nat)} (h : σ ≤ most) (h2 : (goL (cntF most) σ l).2 = true) : (goL (cntF most) σ l).1 ≤ most := by
 rw [cnt_go most l σ h] at h2 ⊢
 simp at h2 ⊢
 omega
theorem cnt_lo {most σ : Int} {l : List (Int × Nat)} (h : σ ≤ most) (h0 : 0 ≤ σ) : 0 ≤ (goL (cntF most) σ l).1 := by
 rw [cnt_go most l σ h]
 simp only
 omega
theorem deepF_ok {most : Int} {σ : Int × Bool} {p : Int × Nat} (h : σ.2 = false) (h2 : (deepF most σ p).2 = true) : (deepF most σ p).1.2 = false := by
 unfold deepF at h2 ⊢
 split at h2
 ·cases h2
 ·rename_i hn
  rw [if_neg hn]
  exact h
theorem deep_ok {most : Int} {σ : Int × Bool} {l : List (Int × Nat)} (h : σ.2 = false) (h2 : (goL (deepF most) σ l).2 = true) : (goL (deepF most) σ l).1.2 = false := by
 obtain ⟨a, f⟩ := σ
 simp only at h
 subst h
 rw [deep_go] at h2 ⊢
 split at h2
 ·cases h2
 ·rfl
def baseE : NT → Nat
 | .armsL _ _ x acc => szE x + szAs acc + 2
 | .sumL a => szE a + 1
 | .prodL a => szE a + 1
 | .opL _ _ _ acc => szEs acc + 2
 | .appL a => szE a + 1
 | .postL a => szE a + 1
 | .braces _ => 2
 | .recL _ _ args => szEs args + 2
 | _ => 0
def baseP : PNT → Nat
 | .marked (.mk _ _ _ _ _ _ args) => szPs args
 | .recL _ _ args => szPs args + 2
 | _ => 0
def Wt : Nat → Cmd → Prop
 | b, .retE x => szE x + 1 ≤ b
 | b, .retP x => szP x + 1 ≤ b
 | b, .look k => ∀ t, Wt b (k t true)
 | b, .ahead k => ∀ n, Wt b (k n)
 | b, .adv k => Wt (b + 2) k
 | _, .fail _ => True
 | b, .callE nt k => ∀ x m, szE x + 1 ≤ baseE nt + 2 * m → Wt (b + 2 * m) (k x)
 | b, .callP nt k => ∀ x m, szP x + 1 ≤ baseP nt + 2 * m → Wt (b + 2 * m) (k x)
theorem wt_ite {p : Prop} [Decidable p] {b : Nat} {c d : Cmd} (h1 : p → Wt b c) (h2 : ¬ p → Wt b d) : Wt b (if p then c else d) := by
 split
 ·exact h1 (by assumption)
 ·exact h2 (by assumption)
theorem wt_mayG {s : List UInt8} {b : Nat} {k : Bool → Cmd} (h1 : Wt (b + 2) (k true)) (h2 : Wt b (k false)) : Wt b (mayC s k) := fun _ => wt_ite (fun _ => h1) (fun _ => h2)
theorem wt_may {s : List UInt8} {b : Nat} {c d : Cmd} (h1 : Wt (b + 2) c) (h2 : Wt b d) : Wt b (mayC s fun b => if b = true then c else d) := wt_mayG h1 h2
theorem wt_adv {b : Nat} {c : Cmd} (h : Wt (b + 2) c) : Wt b (.adv c) := h
theorem wt_fail {b : Nat} {c : Cmd} : Wt b (.fail c) := trivial
theorem wt_isI {l : List (List UInt8)} {b : Nat} {c d : Cmd} (h1 : Wt b c) (h2 : Wt b d) : Wt b (isC l fun b => if b = true then c else d) := fun t => by
 show Wt b (if _ then _ else _)
 exact wt_ite (fun _ => h1) (fun _ => h2)
theorem wt_must {s : List UInt8} {b : Nat} {c : Cmd} (h : Wt (b + 2) c) : Wt b (mustC s c) := fun _ => wt_ite (fun _ => h) (fun _ => trivial)
theorem wt_name {b : Nat} {k : List UInt8 → Cmd} (h : ∀ s, Wt (b + 2) (k s)) : Wt b (nameC k) := fun _ => wt_ite (fun _ => h _) (fun _ => trivial)
theorem wt_is {l : List (List UInt8)} {b : Nat} {k : Bool → Cmd} (h : ∀ c, Wt b (k c)) : Wt b (isC l k) := fun _ => h _
theorem wt_ret {x : ExprT} {b : Nat} (h : szE x + 1 ≤ b) : Wt b (.retE x) := h
theorem wt_retP {x : PatT} {b : Nat} (h : szP x + 1 ≤ b) : Wt b (.retP x) := h
theorem wtP (nt : PNT) : Wt (baseP nt) (bodyP nt) := by
 cases nt with
 | pat =>
  refine fun t => wt_ite (fun _ => fun x m h => wt_retP ?_) (fun _ => fun x m h => wt_retP ?_) <;> simp only [baseP, szP, szPs] at * <;> omega
 | patom =>
  refine fun t => wt_ite (fun h => by cases h) (fun _ => wt_ite (fun _ => wt_retP ?_) (fun _ => wt_ite (fun _ => wt_retP ?_) (fun _ => wt_ite (fun _ => wt_retP ?_) (fun _ => wt_ite (fun _ => wt_retP ?_) (fun _ => fun x m h => wt_retP ?_)))))
  ·split <;> simp [szP, szPs, baseP]
  all_goals simp only [baseP, szP, szPs] at * <;> omega
 | marked x =>
  obtain ⟨k, a, nm, n, s, ls, args⟩ := x
  unfold bodyP
  refine wt_may ?_ (wt_may ?_ (wt_may ?_ (wt_may ?_ (wt_may ?_ wt_fail))))
  ·exact fun t => wt_ite (fun _ => wt_ite (fun _ => wt_retP (by simp only [baseP, szP]; omega)) (fun _ => wt_retP (by simp only [baseP, szP]; omega))) (fun _ => trivial)
  ·exact wt_retP (by simp only [baseP, szP]; omega)
  ·exact wt_retP (by simp only [baseP, szP]; omega)
  ·exact wt_may (wt_retP (by simp only [baseP, szP]; omega)) (fun x m h => wt_must (wt_retP (by simp only [baseP] at *; omega)))
  ·refine wt_may (wt_retP (by simp only [baseP, szP]; omega)) (fun t => wt_ite (fun _ => fun x m h => wt_retP (by simp only [baseP] at *; omega)) (fun h => absurd rfl h))
 | recL a ls args =>
  unfold bodyP
  refine wt_name fun s => wt_must fun x m h => wt_may ?_ ?_
  ·exact fun y m2 h2 => wt_retP (by simp only [baseP, szPs_app, szPs] at *; omega)
  ·exact wt_must (wt_retP (by simp only [baseP, szPs_app, szPs, szP] at *; omega))
theorem wtE (nt : NT) : Wt (baseE nt) (body nt) := by
 cases nt with
 | seq => exact fun x m h t => wt_may (fun y m2 h2 => wt_ret (by simp only [baseE, nodeE, szE, szEs, szAs] at *; omega)) (wt_ret (by simp only [baseE] at *; omega))
 | item =>
  refine fun t => wt_may ?_ (wt_isI (fun x m h => wt_ret (by simp only [baseE] at *; omega)) (wt_may (fun x m h => wt_ret (by simp only [baseE] at *; omega)) (wt_may (fun x m h => wt_ret (by simp only [baseE] at *; omega)) (wt_may ?_ (wt_may ?_ ?_)))))
  ·refine wt_mayG ?_ ?_
   ·exact wt_name fun s => wt_must fun x m h => wt_must fun y m2 h2 => wt_ret (by simp only [if_true, baseE, szE, szEs, szAs] at *; omega)
   ·exact wt_name fun s => wt_must fun x m h => wt_must fun y m2 h2 => wt_ret (by
     have h : szE x + 1 ≤ baseE .seq + 2 * m := h
     simp only [baseE, szE, szEs, szAs] at *; omega)
  ·exact fun x m h => wt_must fun y m2 h2 => wt_must fun z m3 h3 => wt_ret (by simp only [baseE, nodeE, szE, szEs, szAs] at *; omega)
  ·exact fun x m h => wt_ret (by simp only [baseE, nodeE, szE, szEs, szAs] at *; omega)
  ·exact fun x m h t => wt_may (fun y m2 h2 => wt_ret (by simp only [baseE, opE, szE, szEs, szAs] at *; omega)) (wt_ret (by simp only [baseE] at *; omega))
 | fn => exact fun t => wt_must (wt_name fun s => wt_must fun x m h => wt_ret (by simp only [baseE, szE, szEs, szAs] at *; omega))
 | arms k a => exact fun x m h => wt_must fun t => wt_ite (fun _ => fun y m2 h2 => wt_ret (by simp only [baseE, szAs] at *; omega)) (fun h => absurd rfl h)
 | armsL k a x acc => exact fun p m h => wt_must fun y m2 h2 => wt_may (fun z m3 h3 => wt_ret (by simp only [baseE, baseP, szAs_app, szAs, szA] at *; omega)) (wt_must (wt_ret (by simp only [baseE, baseP, szAs_app, szAs, szA, szE, szEs] at *; omega)))
 | or => exact fun x m h t => wt_may (fun y m2 h2 => wt_ret (by simp only [baseE, nodeE, szE, szEs, szAs] at *; omega)) (wt_ret (by simp only [baseE] at *; omega))
 | and => exact fun x m h t => wt_may (fun y m2 h2 => wt_ret (by simp only [baseE, nodeE, szE, szEs, szAs] at *; omega)) (wt_ret (by simp only [baseE] at *; omega))
 | cmp => exact fun x m h t => wt_ite (fun _ => fun y m2 h2 => wt_ret (by simp only [baseE, opE, szE, szEs, szAs] at *; omega)) (fun _ => wt_ret (by simp only [baseE] at *; omega))
 | sum => exact fun x m h y m2 h2 => wt_ret (by simp only [baseE] at *; omega)
 | sumL a => exact fun t => wt_ite (fun _ => fun x m h y m2 h2 => wt_ret (by simp only [baseE, opE, szE, szEs, szAs] at *; omega)) (fun _ => wt_ret (by simp only [baseE] at *; omega))
 | prod => exact fun x m h y m2 h2 => wt_ret (by simp only [baseE] at *; omega)
 | prodL a => exact fun t => wt_ite (fun _ => fun x m h y m2 h2 => wt_ret (by simp only [baseE, opE, szE, szEs, szAs] at *; omega)) (fun _ => wt_ret (by simp only [baseE] at *; omega))
 | unary => exact fun t => wt_may (fun x m h => wt_ret (by simp only [baseE, opE, szE, szEs, szAs] at *; omega)) (wt_may (fun x m h => wt_ret (by simp only [baseE, opE, szE, szEs, szAs] at *; omega)) (fun x m h => wt_ret (by simp only [baseE] at *; omega)))
 | app =>
  refine fun t => wt_ite (fun _ => fun x m h => wt_ret ?_) (fun _ => wt_ite (fun _ => fun x m h => wt_ret ?_) (fun _ => fun x m h y m2 h2 => wt_ret ?_)) <;> simp only [baseE, szE, szEs, szAs] at * <;> omega
 | opL n a m acc =>
  cases m with
  | zero => exact wt_ret (by simp only [baseE, opE, szE, szAs]; omega)
  | succ m => exact fun x m1 h y m2 h2 => wt_ret (by simp only [baseE, szEs_app, szEs] at *; omega)
 | appL a => exact fun t => wt_ite (fun _ => fun x m h y m2 h2 => wt_ret (by simp only [baseE, nodeE, szE, szEs, szAs] at *; omega)) (fun _ => wt_ret (by simp only [baseE] at *; omega))
 | post => exact fun t => wt_may (fun x m h => wt_ret (by simp only [baseE, opE, szE, szEs, szAs] at *; omega)) (fun x m h y m2 h2 => wt_ret (by simp only [baseE] at *; omega))
 | postL a => exact fun t => wt_ite (fun _ => wt_adv (wt_name fun s => fun y m2 h2 => wt_ret (by simp only [baseE, szE, szEs, szAs] at *; omega))) (fun _ => wt_ret (by simp only [baseE] at *; omega))
 | atom =>
  intro t
  refine wt_ite (fun _ => ?_) (fun _ => trivial)
  show Wt (0 + 2) _
  repeat refine wt_ite (fun _ => (by first | exact wt_ret (by simp only [szE, szEs, szAs]; omega) | exact fun x m h => wt_ret (by simp only [baseE] at *; omega))) (fun _ => ?_)
  exact wt_may (wt_ret (by simp only [szE, szEs, szAs]; omega)) (fun x m h => wt_must (wt_ret (by simp only [baseE] at *; omega)))
 | braces a =>
  unfold body
  refine wt_may (wt_ret (by simp only [baseE, szE, szEs, szAs]; omega)) (fun n t => wt_ite (fun _ => wt_ite (fun _ => fun x m h => wt_ret (by simp only [baseE, szEs] at *; omega)) (fun h => absurd rfl h)) (fun _ => fun x m h => wt_must (wt_name fun s => wt_must fun y m2 h2 => wt_must (wt_ret (by simp only [baseE, szE, szEs, szAs] at *; omega)))))
 | recL a ls args =>
  unfold body
  refine wt_name fun s => wt_must fun x m h => wt_may ?_ ?_
  ·exact fun y m2 h2 => wt_ret (by simp only [baseE, szEs_app, szEs] at *; omega)
  ·exact wt_must (wt_ret (by simp only [baseE, szEs_app, szEs, szE, szAs] at *; omega))
def szR : Rs → Nat
 | .e x => szE x
 | .p x => szP x
theorem Run.cost {ts : List Tok} {c : Cmd} {st : St} {r : Rs} {st' : St} (h : Run ts c st r st') : ∀ {b : Nat}, Wt b c → st'.ok = true → szR r + 1 ≤ b + 2 * (st'.i - st.i) := by
 induction h with
 | retE => intro b hw _; simp only [Wt] at hw; simp only [szR]; omega
 | retP => intro b hw _; simp only [Wt] at hw; simp only [szR]; omega
 | look h hk ih => intro b hw hok; have := hk.grows.2 hok; exact ih (by rw [this]; exact hw _) hok
 | ahead h hk ih => intro b hw hok; exact ih (hw _) hok
 | adv hk ih =>
  intro b hw hok
  have h1 := ih (b := b + 2) hw hok
  have h2 := hk.grows.1
  simp only at h1 h2
  omega
 | fail hk ih => intro b hw hok; have := hk.grows.2 hok; cases this
 | @callE nt k st x st1 r st' h hk ih1 ih2 =>
  intro b hw hok
  have h1 := ih1 (wtE nt) (hk.grows.2 hok)
  have h2 := ih2 (b := b + 2 * (st1.i - st.i)) (hw x _ h1) hok
  have h3 := h.grows.1
  have h4 := hk.grows.1
  omega
 | @callP nt k st x st1 r st' h hk ih1 ih2 =>
  intro b hw hok
  have h1 := ih1 (wtP nt) (hk.grows.2 hok)
  have h2 := ih2 (b := b + 2 * (st1.i - st.i)) (hw x _ h1) hok
  have h3 := h.grows.1
  have h4 := hk.grows.1
  omega
end Go.Proofs.YtpjkfeehgookkaaGreatDoor
namespace Go.Proofs.YtpjkfeehgookkaaGreatDoor
open Go.RowKit
attribute [local go_sem ↓] Go.wp_at_zero Go.wp_at_succ
structure CS (pn pm : Nat) (most σ : Int) (w : World) : Prop where
 n : w.heap[pn]? = some (.cells #[.int .i64 σ] 3 (0, 0))
 m : w.heap[pm]? = some (.cells #[.int .i64 most] 3 (0, 0))
 lo : 0 ≤ σ
 hi : most ≤ 1099511627776
 ne : pn ≠ pm
theorem CS.fr {pn pm : Nat} {most σ : Int} {w w' : World} (h : CS pn pm most σ w) (hf : Fr [] w w') : CS pn pm most σ w' :=
 ⟨hf.keep h.n (fun x => by cases x), hf.keep h.m (fun x => by cases x), h.lo, h.hi, h.ne⟩
structure DS (pm pa pf : Nat) (most : Int) (σ : Int × Bool) (w : World) : Prop where
 m : w.heap[pm]? = some (.cells #[.int .i64 most] 3 (0, 0))
 a : w.heap[pa]? = some (.cells #[.int .i64 σ.1] 3 (0, 0))
 f : w.heap[pf]? = some (.cells #[.bool σ.2] 4 (0, 0))
 n1 : pa ≠ pm
 n2 : pf ≠ pm
 n3 : pa ≠ pf
theorem DS.fr {pm pa pf : Nat} {most : Int} {σ : Int × Bool} {w w' : World} (h : DS pm pa pf most σ w) (hf : Fr [] w w') : DS pm pa pf most σ w' :=
 ⟨hf.keep h.m (fun x => by cases x), hf.keep h.a (fun x => by cases x), hf.keep h.f (fun x => by cases x), h.n1, h.n2, h.n3⟩
set_option maxHeartbeats 1000000 in
set_option maxRecDepth 100000 in
theorem eachC (pn pm : Nat) (most σ a D : Int) (d : Nat) (_hD : D = d) (w : World) (h : CS pn pm most σ w) (hs : σ ≤ most) :
  Calls Tryz.prog 29 #[.int .i64 a, .int .i64 D, .pointer (some ⟨pn, 0, none⟩), .pointer (some ⟨pm, 0, none⟩)] w fun e w' => e = .returned (.bool (cntF most σ (a, d)).2) ∧ CS pn pm most (cntF most σ (a, d)).1 w' ∧ Fr [pn] w w' := by
 have hn := lt_of_heap h.n
 have hm := lt_of_heap h.m
 have c0 : w.cell? ⟨pn, 0, none⟩ = some (.int .i64 σ) := cell_of h.n 0
 have z0 : w.frozen? ⟨pn, 0, none⟩ = false := frozen_of h.n 0
 have c1 : w.cell? ⟨pm, 0, none⟩ = some (.int .i64 most) := cell_of h.m 0
 have ne := h.ne
 have ne' := Ne.symm h.ne
 have lo := h.lo
 have hi := h.hi
 have H := Lib.hid h
 clear h _hD
 show Calls _ _ _ _ fun e w' => e = .returned (.bool (decide (σ + 1 ≤ most))) ∧ CS pn pm most (σ + 1) w' ∧ Fr [pn] w w'
 have fs := (Fr.refl [pn] w).setCell (p := ⟨pn, 0, none⟩) (.inl (by simp)) (.int .i64 (σ + 1))
 have HC : Hid (CS pn pm most (σ + 1) (w.setCell ⟨pn, 0, none⟩ (.int .i64 (σ + 1)))) := Lib.hid ⟨set_at H.out.n 0 _, fs.keep H.out.m (by simpa using Ne.symm H.out.ne), by omega, hi, H.out.ne⟩
 have HF := Lib.hid fs
 clear fs
 have wq : IntKind.i64.wrap (σ + 1) = σ + 1 := IntWalk.i64_in _ (by omega)
 go_enter Tryz.func29, Tryz.ntmps29
 go_wp2_with fail
 go_ret
 exact ⟨rfl, HC.out, HF.out⟩
set_option maxHeartbeats 1000000 in
set_option maxRecDepth 100000 in
theorem eachD (pm pa pf : Nat) (most : Int) (σ : Int × Bool) (a D : Int) (d : Nat) (hD : D = d) (w : World) (h : DS pm pa pf most σ w) (hs : σ.2 = false) :
  Calls Tryz.prog 28 #[.int .i64 a, .int .i64 D, .pointer (some ⟨pm, 0, none⟩), .pointer (some ⟨pa, 0, none⟩), .pointer (some ⟨pf, 0, none⟩)] w fun e w' => e = .returned (.bool (deepF most σ (a, d)).2) ∧ DS pm pa pf most (deepF most σ (a, d)).1 w' ∧ Fr [pa, pf] w w' := by
 obtain ⟨σa, σf⟩ := σ
 simp only at hs
 subst hs
 have hm := lt_of_heap h.m
 have ha := lt_of_heap h.a
 have hf := lt_of_heap h.f
 have c0 : w.cell? ⟨pm, 0, none⟩ = some (.int .i64 most) := cell_of h.m 0
 have c1 : w.cell? ⟨pa, 0, none⟩ = some (.int .i64 σa) := cell_of h.a 0
 have c2 : w.cell? ⟨pf, 0, none⟩ = some (.bool false) := cell_of h.f 0
 have z1 : w.frozen? ⟨pa, 0, none⟩ = false := frozen_of h.a 0
 have z2 : w.frozen? ⟨pf, 0, none⟩ = false := frozen_of h.f 0
 have n1 := h.n1
 have n1' := Ne.symm h.n1
 have n2 := h.n2
 have n2' := Ne.symm h.n2
 have n3 := h.n3
 have n3' := Ne.symm h.n3
 have H := Lib.hid h
 clear h
 by_cases hd : most < D
 ·have e : deepF most (σa, false) (a, d) = ((a, true), false) := by unfold deepF; rw [if_pos (by simpa [← hD] using hd)]
  rw [e]
  clear e hD
  have fs := ((Fr.refl [pa, pf] w).setCell (p := ⟨pa, 0, none⟩) (.inl (by simp)) (.int .i64 a)).setCell (p := ⟨pf, 0, none⟩) (.inl (by simp)) (.bool true)
  have HC : Hid (DS pm pa pf most (a, true) ((w.setCell ⟨pa, 0, none⟩ (.int .i64 a)).setCell ⟨pf, 0, none⟩ (.bool true))) := Lib.hid ⟨fs.keep H.out.m (by simp [n1', n2']), ((Fr.refl [pf] _).setCell (p := ⟨pf, 0, none⟩) (.inl (by simp)) (.bool true)).keep (set_at H.out.a 0 (.int .i64 a)) (by simp [n3]), set_at (((Fr.refl [pa] w).setCell (p := ⟨pa, 0, none⟩) (.inl (by simp)) (.int .i64 a)).keep H.out.f (by simp [n3'])) 0 (.bool true), H.out.n1, H.out.n2, H.out.n3⟩
  have HF := Lib.hid fs
  clear fs
  go_enter Tryz.func28, Tryz.ntmps28
  go_wp2_with fail
  go_ret
  exact ⟨rfl, HC.out, HF.out⟩
 ·have e : deepF most (σa, false) (a, d) = ((σa, false), true) := by unfold deepF; rw [if_neg (by simpa [← hD] using hd)]; rfl
  rw [e]
  clear e hD
  go_enter Tryz.func28, Tryz.ntmps28
  go_wp2_with fail
  go_ret
  exact ⟨rfl, H.out, Fr.refl _ _⟩
end Go.Proofs.YtpjkfeehgookkaaGreatDoor
namespace Go.Proofs.YtpjkfeehgookkaaGreatDoor
open Go.RowKit
attribute [local go_sem ↓] Go.wp_at_zero Go.wp_at_succ
def PTC (pn pm : Nat) (most : Int) (lo N : Nat) : Prop := ∀ (k a : Int) (nm : List UInt8) (n : Int) (s : List UInt8) (ls : List (List UInt8)) (args : List PatT) (v5 v6 : Value) (d : Nat) (D : Int) (w : World) (σ : Int), szP (.mk k a nm n s ls args) < N → D = d → d + szP (.mk k a nm n s ls args) ≤ 1099511627776 → lo ≤ w.heap.size →
  PatAt w (fun b => b < lo) (.mk k a nm n s ls args) [.int .i64 k, .int .i64 a, .string ⟨nm.toArray⟩, .int .i64 n, .string ⟨s.toArray⟩, v5, v6] → CS pn pm most σ w → σ ≤ most →
  Calls Tryz.prog 40 #[.agg #[.int .i64 k, .int .i64 a, .string ⟨nm.toArray⟩, .int .i64 n, .string ⟨s.toArray⟩, v5, v6], .int .i64 D, .func (.func 29) #[] #[.pointer (some ⟨pn, 0, none⟩), .pointer (some ⟨pm, 0, none⟩)]] w fun e w' => e = .returned (.bool (goL (cntF most) σ (partsP (.mk k a nm n s ls args) d)).2) ∧ CS pn pm most (goL (cntF most) σ (partsP (.mk k a nm n s ls args) d)).1 w' ∧ Fr [pn] w w'
set_option maxHeartbeats 4000000 in
set_option maxRecDepth 100000 in
theorem patsC_step (pn pm : Nat) (most : Int) (lo : Nat) (hl : lo ≤ pn) (N : Nat) (ih : PTC pn pm most lo N) : PTC pn pm most lo (N + 1) := by
 intro k a nm n s ls args v5 v6 d D w σ hN hD hb hlo hx hs hok
 have hx0 := hx
 cases hx with
 | mk c5 c6 h5 e5 h6 e6 =>
 have hsz : szP (.mk k a nm n s ls args) = 1 + szPs args := by simp [szP]
 rw [hsz] at hN hb
 rw [partsP_mk, goL]
 have hform : ∃ A6 m6 cc6, v6 = .slice A6 m6 cc6 ∧ m6 = args.length := by
  obtain ⟨_, _, hv⟩ := h6.form
  exact ⟨_, _, _, hv, rfl⟩
 obtain ⟨A6, m6, cc6, rfl, rfl⟩ := hform
 have IH := Lib.hid ih
 have H6 := Lib.hid h6
 have E6 : Hid (∀ (i : Nat) (x : PatT), args[i]? = some x → PatAt w (fun b => b < lo) x (c6 i)) := Lib.hid e6
 have HD := Lib.hid hD
 have HS := Lib.hid hs
 have hpn := lt_of_heap hs.n
 have HOK := Lib.hid hok
 have HN := Lib.hid hN
 have HSZ := Lib.hid hsz
 have hdn : (0 : Int) ≤ D := by omega
 have hdx : D ≤ 1099511627776 := by omega
 have HDQ : Hid (IntKind.i64.wrap (D + 1) = D + 1) := Lib.hid (IntWalk.i64_in _ (by omega))
 have hm6 : (args.length : Int) ≤ 4611686018427387903 := by have : args.length ≤ szPs args := szPs_ge args; omega
 clear ih h5 e5 h6 e6 hs hok hD hN hsz hx0
 generalize hR : (if ((cntF most) σ (a, d)).2 = true then goL (cntF most) ((cntF most) σ (a, d)).1 (partsPs args (d + 1)) else (((cntF most) σ (a, d)).1, false)) = R
 have HR := Lib.hid hR
 clear hR
 go_enter Tryz.func40, Tryz.ntmps40
 go_wp2_with fail
 have f0 : Fr [] w (w.alloc (.cells #[.int .i64 k, .int .i64 a, .string ⟨nm.toArray⟩, .int .i64 n, .string ⟨s.toArray⟩, v5, .slice A6 args.length cc6] 62)) := (Fr.refl [] w).alloc _
 have q0 := heap_new w (.cells #[.int .i64 k, .int .i64 a, .string ⟨nm.toArray⟩, .int .i64 n, .string ⟨s.toArray⟩, v5, .slice A6 args.length cc6] 62)
 generalize w.alloc (.cells #[.int .i64 k, .int .i64 a, .string ⟨nm.toArray⟩, .int .i64 n, .string ⟨s.toArray⟩, v5, .slice A6 args.length cc6] 62) = w1 at *
 have hT1 := lt_of_heap q0
 generalize hT : w.heap.size = T at *
 refine (eachC pn pm most σ a D d HD.out w1 (HS.out.fr f0) HOK.out).mono ?_
 rintro e w2 ⟨rfl, hs2, f2⟩
 have hl0 := lt_of_heap hs2.n
 have q0 := f2.keep q0 (by simp; omega)
 have f2 := (f0.mono (L' := [pn]) (fun x hx => by cases hx)).trans f2
 cases hb1 : ((cntF most) σ (a, d)).2 with
 | false =>
  go_wp2_with fail
  go_ret
  have e : R = (((cntF most) σ (a, d)).1, false) := by rw [← HR.out, if_neg (by rw [hb1]; decide)]
  rw [e]
  exact ⟨rfl, hs2, f2⟩
 | true =>
  have HG : Hid (R = goL (cntF most) ((cntF most) σ (a, d)).1 (partsPs (args.drop 0) (d + 1))) := Lib.hid (by rw [← HR.out, if_pos hb1]; rfl)
  have hok2 : Hid (((cntF most) σ (a, d)).1 ≤ most) := Lib.hid (by have := hb1; simp [cntF] at this ⊢; exact this)
  clear hb1 HR
  have hTx := lt_of_heap q0
  obtain ⟨⟨l0, l1, l2, l3, l4, l5, l6⟩, _⟩ := cells7 q0
  go_wp2_with fail
  clear l0 l1 l2 l3 l4 l5 l6
  go_loopw [18] (fun iv wr => ∃ (i : Nat) (τ : Int), iv = .int .i64 i ∧ i ≤ args.length ∧ CS pn pm most τ wr ∧ Hid (τ ≤ most) ∧ Fr [pn] w wr ∧ Hid (R = goL (cntF most) τ (partsPs (args.drop i) (d + 1)))) (fun iv wr => args.length - (intOf iv).toNat)
  case atStart => exact ⟨0, _, rfl, by omega, hs2, hok2, f2, HG⟩
  case round =>
   obtain ⟨i, τ, rfl, hi, hs, hok, f, HG⟩ := hrel
   clear hok2 hs2 f2 q0 hTx hl0
   by_cases hlt : i < args.length
   ·obtain ⟨y, hy⟩ : ∃ y, args[i]? = some y := ⟨args[i], List.getElem?_eq_getElem hlt⟩
    have HY := Lib.hid hy
    clear hy
    have hyx := E6.out i y HY.out
    rcases H6.out with ⟨_, _, _, hl⟩ | ⟨g, og, c', hv, hg, hgs, hcs⟩
    ·omega
    ·cases hv
     obtain ⟨hcl, hcc⟩ := hcs i hlt
     have hcell : ∀ (j : Nat) (v : Value), (c6 i)[j]? = some v → wr.cell? ⟨g, og + i * 7 + j, none⟩ = some v := fun j v hj => (f.cell (p := ⟨g, og + i * 7 + j, none⟩) hgs (by simp; omega)).trans (hcc j v hj)
     have hgw : g < wr.heap.size := Nat.lt_of_lt_of_le hgs (by have := f.size; omega)
     generalize hci : c6 i = ci at *
     have hyw := hyx.keep (w' := wr) (ok' := fun b => b < lo) (Sh.of_fr f (fun b hb hlt => ⟨hb, by simp; omega⟩))
     cases hyx with
     | @mk k2 a2 nm2 n2 s2 ls2 args2 v52 v62 c52 c62 h52 e52 h62 e62 =>
     have hf5 : ∃ A m cc, v52 = .slice A m cc := by obtain ⟨_, _, hv⟩ := h52.form; exact ⟨_, _, _, hv⟩
     have hf6 : ∃ A m cc, v62 = .slice A m cc := by obtain ⟨_, _, hv⟩ := h62.form; exact ⟨_, _, _, hv⟩
     clear h52 e52 h62 e62
     obtain ⟨A52, m52, cc52, rfl⟩ := hf5
     obtain ⟨A62, m62, cc62, rfl⟩ := hf6
     have x0 : wr.cell? ⟨g, og + i * 7, none⟩ = some (.int .i64 k2) := hcell 0 _ rfl
     have x1 : wr.cell? ⟨g, og + i * 7 + 1, none⟩ = some (.int .i64 a2) := hcell 1 _ rfl
     have x2 : wr.cell? ⟨g, og + i * 7 + 2, none⟩ = some (.string ⟨nm2.toArray⟩) := hcell 2 _ rfl
     have x3 : wr.cell? ⟨g, og + i * 7 + 3, none⟩ = some (.int .i64 n2) := hcell 3 _ rfl
     have x4 : wr.cell? ⟨g, og + i * 7 + 4, none⟩ = some (.string ⟨s2.toArray⟩) := hcell 4 _ rfl
     have x5 : wr.cell? ⟨g, og + i * 7 + 5, none⟩ = some (.slice A52 m52 cc52) := hcell 5 _ rfl
     have x6 : wr.cell? ⟨g, og + i * 7 + 6, none⟩ = some (.slice A62 m62 cc62) := hcell 6 _ rfl
     have hsz2 := szPs_get HY.out
     have cP := fun W (hW : Fr [] wr W) => Lib.hid (IH.out k2 a2 nm2 n2 s2 ls2 args2 (.slice A52 m52 cc52) (.slice A62 m62 cc62) (d + 1) (D + 1) W τ (by have := HN.out; omega) (by rw [HD.out]; simp) (by omega) (by have := f.size; have := hW.size; omega) (hyw.keep (Sh.of_fr hW (fun b hb hlt => ⟨hb, fun x => by cases x⟩))) (hs.fr hW) hok.out)
     have hDQ := HDQ.out
     clear hcell hci hcc hcs hcl hyw hg
     have q1 : (0 : Int) ≤ (i : Int) := by omega
     have q2 : (i : Int) < (args.length : Int) := by omega
     go_wp2_with fail
     have fb : Fr [] wr (wr.alloc (.cells #[.int .i64 k2, .int .i64 a2, .string ⟨nm2.toArray⟩, .int .i64 n2, .string ⟨s2.toArray⟩, .slice A52 m52 cc52, .slice A62 m62 cc62] 62)) := (Fr.refl [] wr).alloc _
     refine (cP _ fb).out.mono ?_
     rintro e w3 ⟨rfl, hs3, f3⟩
     clear x0 x1 x2 x3 x4 x5 x6 cP hDQ
     have f3 := (fb.mono (L' := [pn]) (fun x hx => by cases hx)).trans f3
     have f4 := f.trans f3
     cases hb2 : (goL (cntF most) τ (partsP (.mk k2 a2 nm2 n2 s2 ls2 args2) (d + 1))).2 with
     | false =>
      go_wp2_with fail
      go_ret
      have e : R = ((goL (cntF most) τ (partsP (.mk k2 a2 nm2 n2 s2 ls2 args2) (d + 1))).1, false) := by rw [HG.out, partsPs_drop HY.out, goL_app, if_neg (by rw [hb2]; decide)]
      rw [e]
      exact ⟨rfl, hs3, f4⟩
     | true =>
      have HG2 : Hid (R = goL (cntF most) (goL (cntF most) τ (partsP (.mk k2 a2 nm2 n2 s2 ls2 args2) (d + 1))).1 (partsPs (args.drop (i + 1)) (d + 1))) := Lib.hid (by rw [HG.out, partsPs_drop HY.out, goL_app, if_pos hb2])
      have hok3 : Hid ((goL (cntF most) τ (partsP (.mk k2 a2 nm2 n2 s2 ls2 args2) (d + 1))).1 ≤ most) := Lib.hid (cnt_ok hok.out hb2)
      clear hb2 HG hok
      go_wp2_with fail
      go_roundw
      case rel => exact ⟨i + 1, _, by simp, by omega, hs3, hok3, f4, HG2⟩
      case measure => simp [intOf]; omega
   ·have ei : i = args.length := by omega
    subst ei
    go_wp2_with fail
    go_ret
    have e : R = (τ, true) := by rw [HG.out, List.drop_length]; simp [partsPs, goL]
    rw [e]
    exact ⟨rfl, hs, f⟩
theorem patsC_all (pn pm : Nat) (most : Int) (lo : Nat) (hl : lo ≤ pn) : ∀ N, PTC pn pm most lo N
 | 0 => fun _ _ _ _ _ _ _ _ _ _ _ _ _ h => absurd h (Nat.not_lt_zero _)
 | N + 1 => patsC_step pn pm most lo hl N (patsC_all pn pm most lo hl N)
end Go.Proofs.YtpjkfeehgookkaaGreatDoor
namespace Go.Proofs.YtpjkfeehgookkaaGreatDoor
open Go.RowKit
attribute [local go_sem ↓] Go.wp_at_zero Go.wp_at_succ
def WTC (pn pm : Nat) (most : Int) (lo N : Nat) : Prop := ∀ (k a : Int) (nm : List UInt8) (n : Int) (s : List UInt8) (ls : List (List UInt8)) (args : List ExprT) (arms : List (PatT × ExprT)) (v5 v6 v7 : Value) (d : Nat) (D : Int) (w : World) (σ : Int), szE (.mk k a nm n s ls args arms) < N → D = d → d + szE (.mk k a nm n s ls args arms) ≤ 1099511627776 → lo ≤ w.heap.size →
  ExprAt w (fun b => b < lo) (.mk k a nm n s ls args arms) [.int .i64 k, .int .i64 a, .string ⟨nm.toArray⟩, .int .i64 n, .string ⟨s.toArray⟩, v5, v6, v7] → CS pn pm most σ w → σ ≤ most →
  Calls Tryz.prog 27 #[.agg #[.int .i64 k, .int .i64 a, .string ⟨nm.toArray⟩, .int .i64 n, .string ⟨s.toArray⟩, v5, v6, v7], .int .i64 D, .func (.func 29) #[] #[.pointer (some ⟨pn, 0, none⟩), .pointer (some ⟨pm, 0, none⟩)]] w fun e w' => e = .returned (.bool (goL (cntF most) σ (partsE (.mk k a nm n s ls args arms) d)).2) ∧ CS pn pm most (goL (cntF most) σ (partsE (.mk k a nm n s ls args arms) d)).1 w' ∧ Fr [pn] w w'
set_option maxHeartbeats 8000000 in
set_option maxRecDepth 100000 in
theorem walkC_step (pn pm : Nat) (most : Int) (lo : Nat) (hl : lo ≤ pn) (N : Nat) (ih : WTC pn pm most lo N) : WTC pn pm most lo (N + 1) := by
 intro k a nm n s ls args arms v5 v6 v7 d D w σ hN hD hb hlo hx hs hok
 cases hx with
 | mk c5 c6 cp ce h5 e5 h6 e6 h7 e7 e8 =>
 have hsz : szE (.mk k a nm n s ls args arms) = 1 + (szEs args + szAs arms) := by simp [szE]
 rw [hsz] at hN hb
 rw [partsE_mk, goL]
 have hform : ∃ A6 m6 cc6, v6 = .slice A6 m6 cc6 ∧ m6 = args.length := by
  obtain ⟨_, _, hv⟩ := h6.form
  exact ⟨_, _, _, hv, rfl⟩
 obtain ⟨A6, m6, cc6, rfl, rfl⟩ := hform
 have hform : ∃ A7 m7 cc7, v7 = .slice A7 m7 cc7 ∧ m7 = arms.length := by
  obtain ⟨_, _, hv⟩ := h7.form
  exact ⟨_, _, _, hv, rfl⟩
 obtain ⟨A7, m7, cc7, rfl, rfl⟩ := hform
 have IH := Lib.hid ih
 have H6 := Lib.hid h6
 have H7 := Lib.hid h7
 have E6 : Hid (∀ (i : Nat) (x : ExprT), args[i]? = some x → ExprAt w (fun b => b < lo) x (c6 i)) := Lib.hid e6
 have E7 : Hid (∀ (i : Nat) (p : PatT) (x : ExprT), arms[i]? = some (p, x) → PatAt w (fun b => b < lo) p (cp i)) := Lib.hid e7
 have E8 : Hid (∀ (i : Nat) (p : PatT) (x : ExprT), arms[i]? = some (p, x) → ExprAt w (fun b => b < lo) x (ce i)) := Lib.hid e8
 have HD := Lib.hid hD
 have HS := Lib.hid hs
 have hpn := lt_of_heap hs.n
 have HOK := Lib.hid hok
 have HN := Lib.hid hN
 have hdn : (0 : Int) ≤ D := by omega
 have hdx : D ≤ 1099511627776 := by omega
 have HDQ : Hid (IntKind.i64.wrap (D + 1) = D + 1) := Lib.hid (IntWalk.i64_in _ (by omega))
 have hm6 : (args.length : Int) ≤ 4611686018427387903 := by have : args.length ≤ szEs args := szEs_ge args; omega
 have hm7 : (arms.length : Int) ≤ 4611686018427387903 := by have : arms.length ≤ szAs arms := szAs_ge arms; omega
 clear ih h5 e5 h6 e6 h7 e7 e8 hs hok hD hN hsz
 generalize hR : (if ((cntF most) σ (a, d)).2 = true then goL (cntF most) ((cntF most) σ (a, d)).1 (partsEs args (d + 1) ++ partsAs arms (d + 1)) else (((cntF most) σ (a, d)).1, false)) = R
 have HR := Lib.hid hR
 clear hR
 go_enter Tryz.func27, Tryz.ntmps27
 go_wp2_with fail
 have f0 : Fr [] w (w.alloc (.cells #[.int .i64 k, .int .i64 a, .string ⟨nm.toArray⟩, .int .i64 n, .string ⟨s.toArray⟩, v5, .slice A6 args.length cc6, .slice A7 arms.length cc7] 27)) := (Fr.refl [] w).alloc _
 have q0 := heap_new w (.cells #[.int .i64 k, .int .i64 a, .string ⟨nm.toArray⟩, .int .i64 n, .string ⟨s.toArray⟩, v5, .slice A6 args.length cc6, .slice A7 arms.length cc7] 27)
 generalize w.alloc (.cells #[.int .i64 k, .int .i64 a, .string ⟨nm.toArray⟩, .int .i64 n, .string ⟨s.toArray⟩, v5, .slice A6 args.length cc6, .slice A7 arms.length cc7] 27) = w1 at *
 have hT1 := lt_of_heap q0
 generalize hT : w.heap.size = T at *
 refine (eachC pn pm most σ a D d HD.out w1 (HS.out.fr f0) HOK.out).mono ?_
 rintro e w2 ⟨rfl, hs2, f2⟩
 have q0 := f2.keep q0 (by simp; omega)
 have f2 := (f0.mono (L' := [pn]) (fun x hx => by cases hx)).trans f2
 cases hb1 : ((cntF most) σ (a, d)).2 with
 | false =>
  go_wp2_with fail
  go_ret
  have e : R = (((cntF most) σ (a, d)).1, false) := by rw [← HR.out, if_neg (by rw [hb1]; decide)]
  rw [e]
  exact ⟨rfl, hs2, f2⟩
 | true =>
  have HG : Hid (R = goL (cntF most) ((cntF most) σ (a, d)).1 (partsEs (args.drop 0) (d + 1) ++ partsAs arms (d + 1))) := Lib.hid (by rw [← HR.out, if_pos hb1]; rfl)
  have hok2 : Hid (((cntF most) σ (a, d)).1 ≤ most) := Lib.hid (by have := hb1; simp [cntF] at this ⊢; exact this)
  clear hb1 HR
  have hTx := lt_of_heap q0
  obtain ⟨⟨l0, l1, l2, l3, l4, l5, l6, l7⟩, _⟩ := cells8 q0
  go_wp2_with fail
  clear l0 l1 l2 l3 l4 l5 l6 l7
  go_loopw [20] (fun iv wr => ∃ (i : Nat) (τ : Int), iv = .int .i64 i ∧ i ≤ args.length ∧ CS pn pm most τ wr ∧ Hid (τ ≤ most) ∧ Fr [pn] w wr ∧ wr.heap[T]? = some (.cells #[.int .i64 k, .int .i64 a, .string ⟨nm.toArray⟩, .int .i64 n, .string ⟨s.toArray⟩, v5, .slice A6 args.length cc6, .slice A7 arms.length cc7] 27 (0, 0)) ∧ Hid (R = goL (cntF most) τ (partsEs (args.drop i) (d + 1) ++ partsAs arms (d + 1)))) (fun iv wr => args.length - (intOf iv).toNat)
  case atStart => exact ⟨0, _, rfl, by omega, hs2, hok2, f2, q0, HG⟩
  case round =>
   obtain ⟨i, τ, rfl, hi, hs, hok, f, q0', HG⟩ := hrel
   clear hok2 hs2 f2 q0 hTx
   have q0 := q0'
   clear q0'
   have hTw := lt_of_heap q0
   by_cases hlt : i < args.length
   ·obtain ⟨y, hy⟩ : ∃ y, args[i]? = some y := ⟨args[i], List.getElem?_eq_getElem hlt⟩
    have HY := Lib.hid hy
    clear hy
    have hyx := E6.out i y HY.out
    rcases H6.out with ⟨_, _, _, hl⟩ | ⟨g, og, c', hv, hg, hgs, hcs⟩
    ·omega
    ·cases hv
     obtain ⟨hcl, hcc⟩ := hcs i hlt
     have hcell : ∀ (j : Nat) (v : Value), (c6 i)[j]? = some v → wr.cell? ⟨g, og + i * 8 + j, none⟩ = some v := fun j v hj => (f.cell (p := ⟨g, og + i * 8 + j, none⟩) hgs (by simp; omega)).trans (hcc j v hj)
     have hgw : g < wr.heap.size := Nat.lt_of_lt_of_le hgs (by have := f.size; omega)
     generalize hci : c6 i = ci at *
     have hyw := hyx.keep (w' := wr) (ok' := fun b => b < lo) (Sh.of_fr f (fun b hb hlt => ⟨hb, by simp; omega⟩))
     cases hyx with
     | @mk k2 a2 nm2 n2 s2 ls2 args2 arms2 v52 v62 v72 c52 c62 cp2 ce2 h52 e52 h62 e62 h72 e72 e82 =>
     have hf : ∃ A m cc, v52 = .slice A m cc := by obtain ⟨_, _, hv⟩ := h52.form; exact ⟨_, _, _, hv⟩
     obtain ⟨A52, m52, cc52, rfl⟩ := hf
     have hf : ∃ A m cc, v62 = .slice A m cc := by obtain ⟨_, _, hv⟩ := h62.form; exact ⟨_, _, _, hv⟩
     obtain ⟨A62, m62, cc62, rfl⟩ := hf
     have hf : ∃ A m cc, v72 = .slice A m cc := by obtain ⟨_, _, hv⟩ := h72.form; exact ⟨_, _, _, hv⟩
     obtain ⟨A72, m72, cc72, rfl⟩ := hf
     clear h52 e52 h62 e62 h72 e72 e82
     have x0 : wr.cell? ⟨g, og + i * 8, none⟩ = some (.int .i64 k2) := hcell 0 _ rfl
     have x1 : wr.cell? ⟨g, og + i * 8 + 1, none⟩ = some (.int .i64 a2) := hcell 1 _ rfl
     have x2 : wr.cell? ⟨g, og + i * 8 + 2, none⟩ = some (.string ⟨nm2.toArray⟩) := hcell 2 _ rfl
     have x3 : wr.cell? ⟨g, og + i * 8 + 3, none⟩ = some (.int .i64 n2) := hcell 3 _ rfl
     have x4 : wr.cell? ⟨g, og + i * 8 + 4, none⟩ = some (.string ⟨s2.toArray⟩) := hcell 4 _ rfl
     have x5 : wr.cell? ⟨g, og + i * 8 + 5, none⟩ = some (.slice A52 m52 cc52) := hcell 5 _ rfl
     have x6 : wr.cell? ⟨g, og + i * 8 + 6, none⟩ = some (.slice A62 m62 cc62) := hcell 6 _ rfl
     have x7 : wr.cell? ⟨g, og + i * 8 + 7, none⟩ = some (.slice A72 m72 cc72) := hcell 7 _ rfl
     have hsz2 := szEs_get HY.out
     have cP := fun W (hW : Fr [] wr W) => Lib.hid (IH.out k2 a2 nm2 n2 s2 ls2 args2 arms2 (.slice A52 m52 cc52) (.slice A62 m62 cc62) (.slice A72 m72 cc72) (d + 1) (D + 1) W τ (by have := HN.out; omega) (by rw [HD.out]; simp) (by omega) (by have := f.size; have := hW.size; omega) (hyw.keep (Sh.of_fr hW (fun b hb hlt => ⟨hb, fun x => by cases x⟩))) (hs.fr hW) hok.out)
     have hDQ := HDQ.out
     clear hcell hci hcc hcs hcl hyw hg
     have q1 : (0 : Int) ≤ (i : Int) := by omega
     have q2 : (i : Int) < (args.length : Int) := by omega
     have q0 := Lib.hid q0
     go_wp2_with fail
     have fb : Fr [] wr (wr.alloc (.cells #[.int .i64 k2, .int .i64 a2, .string ⟨nm2.toArray⟩, .int .i64 n2, .string ⟨s2.toArray⟩, .slice A52 m52 cc52, .slice A62 m62 cc62, .slice A72 m72 cc72] 27)) := (Fr.refl [] wr).alloc _
     refine (cP _ fb).out.mono ?_
     rintro e w3 ⟨rfl, hs3, f3⟩
     clear x0 x1 x2 x3 x4 x5 x6 x7 cP hDQ
     have q0 := f3.keep (heap_old q0.out (.cells #[.int .i64 k2, .int .i64 a2, .string ⟨nm2.toArray⟩, .int .i64 n2, .string ⟨s2.toArray⟩, .slice A52 m52 cc52, .slice A62 m62 cc62, .slice A72 m72 cc72] 27)) (by simp; omega)
     have f3 := (fb.mono (L' := [pn]) (fun x hx => by cases hx)).trans f3
     have f4 := f.trans f3
     cases hb2 : (goL (cntF most) τ (partsE (.mk k2 a2 nm2 n2 s2 ls2 args2 arms2) (d + 1))).2 with
     | false =>
      go_wp2_with fail
      go_ret
      have e : R = ((goL (cntF most) τ (partsE (.mk k2 a2 nm2 n2 s2 ls2 args2 arms2) (d + 1))).1, false) := by rw [HG.out, partsEs_drop HY.out, List.append_assoc, goL_app, if_neg (by rw [hb2]; decide)]
      rw [e]
      exact ⟨rfl, hs3, f4⟩
     | true =>
      have HG2 : Hid (R = goL (cntF most) (goL (cntF most) τ (partsE (.mk k2 a2 nm2 n2 s2 ls2 args2 arms2) (d + 1))).1 (partsEs (args.drop (i + 1)) (d + 1) ++ partsAs arms (d + 1))) := Lib.hid (by rw [HG.out, partsEs_drop HY.out, List.append_assoc, goL_app, if_pos hb2])
      have hok3 : Hid ((goL (cntF most) τ (partsE (.mk k2 a2 nm2 n2 s2 ls2 args2 arms2) (d + 1))).1 ≤ most) := Lib.hid (cnt_ok hok.out hb2)
      clear hb2 HG hok
      have q0 := Lib.hid q0
      go_wp2_with fail
      go_roundw
      case rel => exact ⟨i + 1, _, by simp, by omega, hs3, hok3, f4, q0.out, HG2⟩
      case measure => simp [intOf]; omega
   ·have ei : i = args.length := by omega
    subst ei
    obtain ⟨⟨l0, l1, l2, l3, l4, l5, l6, l7⟩, _⟩ := cells8 q0
    have HG2 : Hid (R = goL (cntF most) τ (partsAs (arms.drop 0) (d + 1))) := Lib.hid (by rw [HG.out, List.drop_length]; simp [partsEs])
    clear HG q0
    go_wp2_with fail
    clear l0 l1 l2 l3 l4 l5 l6 l7
    go_loopw [34] (fun iv wr => ∃ (i : Nat) (τ : Int), iv = .int .i64 i ∧ i ≤ arms.length ∧ CS pn pm most τ wr ∧ Hid (τ ≤ most) ∧ Fr [pn] w wr ∧ Hid (R = goL (cntF most) τ (partsAs (arms.drop i) (d + 1)))) (fun iv wr => arms.length - (intOf iv).toNat)
    case atStart => exact ⟨0, _, rfl, by omega, hs, hok, f, HG2⟩
    case round =>
     clear HG2 hs hok hTw f
     obtain ⟨i, τ', rfl, hi', hs, hok, f, HG⟩ := hrel
     by_cases hlt : i < arms.length
     ·obtain ⟨p, y, hy⟩ : ∃ p y, arms[i]? = some (p, y) := ⟨(arms[i]).1, (arms[i]).2, List.getElem?_eq_getElem hlt⟩
      have HY := Lib.hid hy
      clear hy
      have hpx := E7.out i p y HY.out
      have hyx := E8.out i p y HY.out
      rcases H7.out with ⟨_, _, _, hl⟩ | ⟨g, og, c', hv, hg, hgs, hcs⟩
      ·omega
      ·cases hv
       obtain ⟨hcl, hcc⟩ := hcs i hlt
       have hcell : ∀ (j : Nat) (v : Value), (cp i ++ ce i)[j]? = some v → wr.cell? ⟨g, og + i * 15 + j, none⟩ = some v := fun j v hj => (f.cell (p := ⟨g, og + i * 15 + j, none⟩) hgs (by simp; omega)).trans (hcc j v hj)
       have hgw : g < wr.heap.size := Nat.lt_of_lt_of_le hgs (by have := f.size; omega)
       clear hcc hcs
       generalize hci : cp i = ci at *
       generalize hce : ce i = cj at *
       have hyw := hyx.keep (w' := wr) (ok' := fun b => b < lo) (Sh.of_fr f (fun b hb hlt => ⟨hb, by simp; omega⟩))
       have hpw := hpx.keep (w' := wr) (ok' := fun b => b < lo) (Sh.of_fr f (fun b hb hlt => ⟨hb, by simp; omega⟩))
       cases hpx with
       | @mk k3 a3 nm3 n3 s3 ls3 args3 v53 v63 c53 c63 h53 e53 h63 e63 =>
       cases hyx with
       | @mk k2 a2 nm2 n2 s2 ls2 args2 arms2 v52 v62 v72 c52 c62 cp2 ce2 h52 e52 h62 e62 h72 e72 e82 =>
       have hf : ∃ A m cc, v53 = .slice A m cc := by obtain ⟨_, _, hv⟩ := h53.form; exact ⟨_, _, _, hv⟩
       obtain ⟨A53, m53, cc53, rfl⟩ := hf
       have hf : ∃ A m cc, v63 = .slice A m cc := by obtain ⟨_, _, hv⟩ := h63.form; exact ⟨_, _, _, hv⟩
       obtain ⟨A63, m63, cc63, rfl⟩ := hf
       have hf : ∃ A m cc, v52 = .slice A m cc := by obtain ⟨_, _, hv⟩ := h52.form; exact ⟨_, _, _, hv⟩
       obtain ⟨A52, m52, cc52, rfl⟩ := hf
       have hf : ∃ A m cc, v62 = .slice A m cc := by obtain ⟨_, _, hv⟩ := h62.form; exact ⟨_, _, _, hv⟩
       obtain ⟨A62, m62, cc62, rfl⟩ := hf
       have hf : ∃ A m cc, v72 = .slice A m cc := by obtain ⟨_, _, hv⟩ := h72.form; exact ⟨_, _, _, hv⟩
       obtain ⟨A72, m72, cc72, rfl⟩ := hf
       clear h52 e52 h62 e62 h72 e72 e82 h53 e53 h63 e63
       have x0 : wr.cell? ⟨g, og + i * 15, none⟩ = some (.int .i64 k3) := hcell 0 _ rfl
       have x1 : wr.cell? ⟨g, og + i * 15 + 1, none⟩ = some (.int .i64 a3) := hcell 1 _ rfl
       have x2 : wr.cell? ⟨g, og + i * 15 + 2, none⟩ = some (.string ⟨nm3.toArray⟩) := hcell 2 _ rfl
       have x3 : wr.cell? ⟨g, og + i * 15 + 3, none⟩ = some (.int .i64 n3) := hcell 3 _ rfl
       have x4 : wr.cell? ⟨g, og + i * 15 + 4, none⟩ = some (.string ⟨s3.toArray⟩) := hcell 4 _ rfl
       have x5 : wr.cell? ⟨g, og + i * 15 + 5, none⟩ = some (.slice A53 m53 cc53) := hcell 5 _ rfl
       have x6 : wr.cell? ⟨g, og + i * 15 + 6, none⟩ = some (.slice A63 m63 cc63) := hcell 6 _ rfl
       have x7 : wr.cell? ⟨g, og + i * 15 + 7, none⟩ = some (.int .i64 k2) := hcell 7 _ rfl
       have x8 : wr.cell? ⟨g, og + i * 15 + 8, none⟩ = some (.int .i64 a2) := hcell 8 _ rfl
       have x9 : wr.cell? ⟨g, og + i * 15 + 9, none⟩ = some (.string ⟨nm2.toArray⟩) := hcell 9 _ rfl
       have x10 : wr.cell? ⟨g, og + i * 15 + 10, none⟩ = some (.int .i64 n2) := hcell 10 _ rfl
       have x11 : wr.cell? ⟨g, og + i * 15 + 11, none⟩ = some (.string ⟨s2.toArray⟩) := hcell 11 _ rfl
       have x12 : wr.cell? ⟨g, og + i * 15 + 12, none⟩ = some (.slice A52 m52 cc52) := hcell 12 _ rfl
       have x13 : wr.cell? ⟨g, og + i * 15 + 13, none⟩ = some (.slice A62 m62 cc62) := hcell 13 _ rfl
       have x14 : wr.cell? ⟨g, og + i * 15 + 14, none⟩ = some (.slice A72 m72 cc72) := hcell 14 _ rfl
       have hsz2 := szAs_get HY.out
       have cP := fun W (hW : Fr [] wr W) => Lib.hid (patsC_all pn pm most lo hl (szP (.mk k3 a3 nm3 n3 s3 ls3 args3) + 1) k3 a3 nm3 n3 s3 ls3 args3 (.slice A53 m53 cc53) (.slice A63 m63 cc63) (d + 1) (D + 1) W τ' (by omega) (by rw [HD.out]; simp) (by omega) (by have := f.size; have := hW.size; omega) (hpw.keep (Sh.of_fr hW (fun b hb hlt => ⟨hb, fun x => by cases x⟩))) (hs.fr hW) hok.out)
       have cE := fun W (hW : Fr [pn] wr W) τ2 (hs2 : CS pn pm most τ2 W) (hok2 : τ2 ≤ most) => Lib.hid (IH.out k2 a2 nm2 n2 s2 ls2 args2 arms2 (.slice A52 m52 cc52) (.slice A62 m62 cc62) (.slice A72 m72 cc72) (d + 1) (D + 1) W τ2 (by have := HN.out; omega) (by rw [HD.out]; simp) (by omega) (by have := f.size; have := hW.size; omega) (hyw.keep (Sh.of_fr hW (fun b hb hlt => ⟨hb, by simp; omega⟩))) hs2 hok2)
       have hDQ := HDQ.out
       clear hcell hci hce hcl hyw hpw hg
       have q1 : (0 : Int) ≤ (i : Int) := by omega
       have q2 : (i : Int) < (arms.length : Int) := by omega
       go_wp2_with fail
       have fb : Fr [] wr (wr.alloc (.cells #[.int .i64 k3, .int .i64 a3, .string ⟨nm3.toArray⟩, .int .i64 n3, .string ⟨s3.toArray⟩, .slice A53 m53 cc53, .slice A63 m63 cc63, .int .i64 k2, .int .i64 a2, .string ⟨nm2.toArray⟩, .int .i64 n2, .string ⟨s2.toArray⟩, .slice A52 m52 cc52, .slice A62 m62 cc62, .slice A72 m72 cc72] 64)) := (Fr.refl [] wr).alloc _
       have qb := heap_new wr (.cells #[.int .i64 k3, .int .i64 a3, .string ⟨nm3.toArray⟩, .int .i64 n3, .string ⟨s3.toArray⟩, .slice A53 m53 cc53, .slice A63 m63 cc63, .int .i64 k2, .int .i64 a2, .string ⟨nm2.toArray⟩, .int .i64 n2, .string ⟨s2.toArray⟩, .slice A52 m52 cc52, .slice A62 m62 cc62, .slice A72 m72 cc72] 64)
       have hTb : wr.heap.size < (wr.alloc (.cells #[.int .i64 k3, .int .i64 a3, .string ⟨nm3.toArray⟩, .int .i64 n3, .string ⟨s3.toArray⟩, .slice A53 m53 cc53, .slice A63 m63 cc63, .int .i64 k2, .int .i64 a2, .string ⟨nm2.toArray⟩, .int .i64 n2, .string ⟨s2.toArray⟩, .slice A52 m52 cc52, .slice A62 m62 cc62, .slice A72 m72 cc72] 64)).heap.size := lt_of_heap qb
       refine (cP _ fb).out.mono ?_
       rintro e w3 ⟨rfl, hs3, f3⟩
       clear cP x0 x1 x2 x3 x4 x5 x6 x7 x8 x9 x10 x11 x12 x13 x14
       have qb := f3.keep qb (by simp; have := f.size; omega)
       have f3 := (fb.mono (L' := [pn]) (fun x hx => by cases hx)).trans f3
       have f4 := f.trans f3
       have hTb3 := lt_of_heap qb
       have M15 : w3.cell? ⟨wr.heap.size, 0, none⟩ = some (.int .i64 k3) ∧ w3.cell? ⟨wr.heap.size, 1, none⟩ = some (.int .i64 a3) ∧ w3.cell? ⟨wr.heap.size, 2, none⟩ = some (.string ⟨nm3.toArray⟩) ∧ w3.cell? ⟨wr.heap.size, 3, none⟩ = some (.int .i64 n3) ∧ w3.cell? ⟨wr.heap.size, 4, none⟩ = some (.string ⟨s3.toArray⟩) ∧ w3.cell? ⟨wr.heap.size, 5, none⟩ = some (.slice A53 m53 cc53) ∧ w3.cell? ⟨wr.heap.size, 6, none⟩ = some (.slice A63 m63 cc63) ∧ w3.cell? ⟨wr.heap.size, 7, none⟩ = some (.int .i64 k2) ∧ w3.cell? ⟨wr.heap.size, 8, none⟩ = some (.int .i64 a2) ∧ w3.cell? ⟨wr.heap.size, 9, none⟩ = some (.string ⟨nm2.toArray⟩) ∧ w3.cell? ⟨wr.heap.size, 10, none⟩ = some (.int .i64 n2) ∧ w3.cell? ⟨wr.heap.size, 11, none⟩ = some (.string ⟨s2.toArray⟩) ∧ w3.cell? ⟨wr.heap.size, 12, none⟩ = some (.slice A52 m52 cc52) ∧ w3.cell? ⟨wr.heap.size, 13, none⟩ = some (.slice A62 m62 cc62) ∧ w3.cell? ⟨wr.heap.size, 14, none⟩ = some (.slice A72 m72 cc72) := ⟨cell_of qb 0, cell_of qb 1, cell_of qb 2, cell_of qb 3, cell_of qb 4, cell_of qb 5, cell_of qb 6, cell_of qb 7, cell_of qb 8, cell_of qb 9, cell_of qb 10, cell_of qb 11, cell_of qb 12, cell_of qb 13, cell_of qb 14⟩
       obtain ⟨m0, m1, m2, m3, m4, m5, m6, m7, m8, m9, m10, m11, m12, m13, m14⟩ := M15
       cases hb2 : (goL (cntF most) τ' (partsP (.mk k3 a3 nm3 n3 s3 ls3 args3) (d + 1))).2 with
       | false =>
        go_wp2_with fail
        go_ret
        have e : R = ((goL (cntF most) τ' (partsP (.mk k3 a3 nm3 n3 s3 ls3 args3) (d + 1))).1, false) := by rw [HG.out, partsAs_drop HY.out, goL_app, if_neg (by rw [hb2]; decide)]
        rw [e]
        exact ⟨rfl, hs3, f4⟩
       | true =>
        have hok3 : Hid ((goL (cntF most) τ' (partsP (.mk k3 a3 nm3 n3 s3 ls3 args3) (d + 1))).1 ≤ most) := Lib.hid (cnt_ok hok.out hb2)
        have HG2 : Hid (R = goL (cntF most) (goL (cntF most) τ' (partsP (.mk k3 a3 nm3 n3 s3 ls3 args3) (d + 1))).1 (partsE (.mk k2 a2 nm2 n2 s2 ls2 args2 arms2) (d + 1) ++ partsAs (arms.drop (i + 1)) (d + 1))) := Lib.hid (by rw [HG.out, partsAs_drop HY.out, goL_app, if_pos hb2])
        clear hb2
        go_wp2_with fail
        refine (cE _ f3 _ hs3 hok3.out).out.mono ?_
        rintro e w4 ⟨rfl, hs4, f5⟩
        clear m0 m1 m2 m3 m4 m5 m6 m7 m8 m9 m10 m11 m12 m13 m14 cE hDQ
        have f6 := f4.trans f5
        cases hb3 : (goL (cntF most) (goL (cntF most) τ' (partsP (.mk k3 a3 nm3 n3 s3 ls3 args3) (d + 1))).1 (partsE (.mk k2 a2 nm2 n2 s2 ls2 args2 arms2) (d + 1))).2 with
        | false =>
         go_wp2_with fail
         go_ret
         have e : R = ((goL (cntF most) (goL (cntF most) τ' (partsP (.mk k3 a3 nm3 n3 s3 ls3 args3) (d + 1))).1 (partsE (.mk k2 a2 nm2 n2 s2 ls2 args2 arms2) (d + 1))).1, false) := by rw [HG2.out, goL_app, if_neg (by rw [hb3]; decide)]
         rw [e]
         exact ⟨rfl, hs4, f6⟩
        | true =>
         have hok4 : Hid ((goL (cntF most) (goL (cntF most) τ' (partsP (.mk k3 a3 nm3 n3 s3 ls3 args3) (d + 1))).1 (partsE (.mk k2 a2 nm2 n2 s2 ls2 args2 arms2) (d + 1))).1 ≤ most) := Lib.hid (cnt_ok hok3.out hb3)
         have HG3 : Hid (R = goL (cntF most) (goL (cntF most) (goL (cntF most) τ' (partsP (.mk k3 a3 nm3 n3 s3 ls3 args3) (d + 1))).1 (partsE (.mk k2 a2 nm2 n2 s2 ls2 args2 arms2) (d + 1))).1 (partsAs (arms.drop (i + 1)) (d + 1))) := Lib.hid (by rw [HG2.out, goL_app, if_pos hb3])
         clear hb3 HG2 HG hok3 hok
         go_wp2_with fail
         go_roundw
         case rel => exact ⟨i + 1, _, by simp, by omega, hs4, hok4, f6, HG3⟩
         case measure => simp [intOf]; omega
     ·have ei : i = arms.length := by omega
      subst ei
      go_wp2_with fail
      go_ret
      have e : R = (τ', true) := by rw [HG.out, List.drop_length]; simp [partsAs, goL]
      rw [e]
      exact ⟨rfl, hs, f⟩
theorem walkC_all (pn pm : Nat) (most : Int) (lo : Nat) (hl : lo ≤ pn) : ∀ N, WTC pn pm most lo N
 | 0 => fun _ _ _ _ _ _ _ _ _ _ _ _ _ _ _ h => absurd h (Nat.not_lt_zero _)
 | N + 1 => walkC_step pn pm most lo hl N (walkC_all pn pm most lo hl N)
end Go.Proofs.YtpjkfeehgookkaaGreatDoor
namespace Go.Proofs.YtpjkfeehgookkaaGreatDoor
open Go.RowKit
attribute [local go_sem ↓] Go.wp_at_zero Go.wp_at_succ
def PTD (pm pa pf : Nat) (most : Int) (lo N : Nat) : Prop := ∀ (k a : Int) (nm : List UInt8) (n : Int) (s : List UInt8) (ls : List (List UInt8)) (args : List PatT) (v5 v6 : Value) (d : Nat) (D : Int) (w : World) (σ : (Int × Bool)), szP (.mk k a nm n s ls args) < N → D = d → d + szP (.mk k a nm n s ls args) ≤ 1099511627776 → lo ≤ w.heap.size →
  PatAt w (fun b => b < lo) (.mk k a nm n s ls args) [.int .i64 k, .int .i64 a, .string ⟨nm.toArray⟩, .int .i64 n, .string ⟨s.toArray⟩, v5, v6] → DS pm pa pf most σ w → σ.2 = false →
  Calls Tryz.prog 40 #[.agg #[.int .i64 k, .int .i64 a, .string ⟨nm.toArray⟩, .int .i64 n, .string ⟨s.toArray⟩, v5, v6], .int .i64 D, .func (.func 28) #[] #[.pointer (some ⟨pm, 0, none⟩), .pointer (some ⟨pa, 0, none⟩), .pointer (some ⟨pf, 0, none⟩)]] w fun e w' => e = .returned (.bool (goL (deepF most) σ (partsP (.mk k a nm n s ls args) d)).2) ∧ DS pm pa pf most (goL (deepF most) σ (partsP (.mk k a nm n s ls args) d)).1 w' ∧ Fr [pa, pf] w w'
set_option maxHeartbeats 4000000 in
set_option maxRecDepth 100000 in
theorem patsD_step (pm pa pf : Nat) (most : Int) (lo : Nat) (hl : lo ≤ pa) (hl2 : lo ≤ pf) (N : Nat) (ih : PTD pm pa pf most lo N) : PTD pm pa pf most lo (N + 1) := by
 intro k a nm n s ls args v5 v6 d D w σ hN hD hb hlo hx hs hok
 have hx0 := hx
 cases hx with
 | mk c5 c6 h5 e5 h6 e6 =>
 have hsz : szP (.mk k a nm n s ls args) = 1 + szPs args := by simp [szP]
 rw [hsz] at hN hb
 rw [partsP_mk, goL]
 have hform : ∃ A6 m6 cc6, v6 = .slice A6 m6 cc6 ∧ m6 = args.length := by
  obtain ⟨_, _, hv⟩ := h6.form
  exact ⟨_, _, _, hv, rfl⟩
 obtain ⟨A6, m6, cc6, rfl, rfl⟩ := hform
 have IH := Lib.hid ih
 have H6 := Lib.hid h6
 have E6 : Hid (∀ (i : Nat) (x : PatT), args[i]? = some x → PatAt w (fun b => b < lo) x (c6 i)) := Lib.hid e6
 have HD := Lib.hid hD
 have HS := Lib.hid hs
 have hpn := lt_of_heap hs.a
 have hpn2 := lt_of_heap hs.f
 have HOK := Lib.hid hok
 have HN := Lib.hid hN
 have HSZ := Lib.hid hsz
 have hdn : (0 : Int) ≤ D := by omega
 have hdx : D ≤ 1099511627776 := by omega
 have HDQ : Hid (IntKind.i64.wrap (D + 1) = D + 1) := Lib.hid (IntWalk.i64_in _ (by omega))
 have hm6 : (args.length : Int) ≤ 4611686018427387903 := by have : args.length ≤ szPs args := szPs_ge args; omega
 clear ih h5 e5 h6 e6 hs hok hD hN hsz hx0
 generalize hR : (if ((deepF most) σ (a, d)).2 = true then goL (deepF most) ((deepF most) σ (a, d)).1 (partsPs args (d + 1)) else (((deepF most) σ (a, d)).1, false)) = R
 have HR := Lib.hid hR
 clear hR
 go_enter Tryz.func40, Tryz.ntmps40
 go_wp2_with fail
 have f0 : Fr [] w (w.alloc (.cells #[.int .i64 k, .int .i64 a, .string ⟨nm.toArray⟩, .int .i64 n, .string ⟨s.toArray⟩, v5, .slice A6 args.length cc6] 62)) := (Fr.refl [] w).alloc _
 have q0 := heap_new w (.cells #[.int .i64 k, .int .i64 a, .string ⟨nm.toArray⟩, .int .i64 n, .string ⟨s.toArray⟩, v5, .slice A6 args.length cc6] 62)
 generalize w.alloc (.cells #[.int .i64 k, .int .i64 a, .string ⟨nm.toArray⟩, .int .i64 n, .string ⟨s.toArray⟩, v5, .slice A6 args.length cc6] 62) = w1 at *
 have hT1 := lt_of_heap q0
 generalize hT : w.heap.size = T at *
 refine (eachD pm pa pf most σ a D d HD.out w1 (HS.out.fr f0) HOK.out).mono ?_
 rintro e w2 ⟨rfl, hs2, f2⟩
 have hl0 := lt_of_heap hs2.a
 have q0 := f2.keep q0 (by simp; omega)
 have f2 := (f0.mono (L' := [pa, pf]) (fun x hx => by cases hx)).trans f2
 cases hb1 : ((deepF most) σ (a, d)).2 with
 | false =>
  go_wp2_with fail
  go_ret
  have e : R = (((deepF most) σ (a, d)).1, false) := by rw [← HR.out, if_neg (by rw [hb1]; decide)]
  rw [e]
  exact ⟨rfl, hs2, f2⟩
 | true =>
  have HG : Hid (R = goL (deepF most) ((deepF most) σ (a, d)).1 (partsPs (args.drop 0) (d + 1))) := Lib.hid (by rw [← HR.out, if_pos hb1]; rfl)
  have hok2 : Hid (((deepF most) σ (a, d)).1.2 = false) := Lib.hid (deepF_ok HOK.out hb1)
  clear hb1 HR
  have hTx := lt_of_heap q0
  obtain ⟨⟨l0, l1, l2, l3, l4, l5, l6⟩, _⟩ := cells7 q0
  go_wp2_with fail
  clear l0 l1 l2 l3 l4 l5 l6
  go_loopw [18] (fun iv wr => ∃ (i : Nat) (τ : (Int × Bool)), iv = .int .i64 i ∧ i ≤ args.length ∧ DS pm pa pf most τ wr ∧ Hid (τ.2 = false) ∧ Fr [pa, pf] w wr ∧ Hid (R = goL (deepF most) τ (partsPs (args.drop i) (d + 1)))) (fun iv wr => args.length - (intOf iv).toNat)
  case atStart => exact ⟨0, _, rfl, by omega, hs2, hok2, f2, HG⟩
  case round =>
   obtain ⟨i, τ, rfl, hi, hs, hok, f, HG⟩ := hrel
   clear hok2 hs2 f2 q0 hTx hl0
   by_cases hlt : i < args.length
   ·obtain ⟨y, hy⟩ : ∃ y, args[i]? = some y := ⟨args[i], List.getElem?_eq_getElem hlt⟩
    have HY := Lib.hid hy
    clear hy
    have hyx := E6.out i y HY.out
    rcases H6.out with ⟨_, _, _, hl⟩ | ⟨g, og, c', hv, hg, hgs, hcs⟩
    ·omega
    ·cases hv
     obtain ⟨hcl, hcc⟩ := hcs i hlt
     have hcell : ∀ (j : Nat) (v : Value), (c6 i)[j]? = some v → wr.cell? ⟨g, og + i * 7 + j, none⟩ = some v := fun j v hj => (f.cell (p := ⟨g, og + i * 7 + j, none⟩) hgs (by simp; omega)).trans (hcc j v hj)
     have hgw : g < wr.heap.size := Nat.lt_of_lt_of_le hgs (by have := f.size; omega)
     generalize hci : c6 i = ci at *
     have hyw := hyx.keep (w' := wr) (ok' := fun b => b < lo) (Sh.of_fr f (fun b hb hlt => ⟨hb, by simp; omega⟩))
     cases hyx with
     | @mk k2 a2 nm2 n2 s2 ls2 args2 v52 v62 c52 c62 h52 e52 h62 e62 =>
     have hf5 : ∃ A m cc, v52 = .slice A m cc := by obtain ⟨_, _, hv⟩ := h52.form; exact ⟨_, _, _, hv⟩
     have hf6 : ∃ A m cc, v62 = .slice A m cc := by obtain ⟨_, _, hv⟩ := h62.form; exact ⟨_, _, _, hv⟩
     clear h52 e52 h62 e62
     obtain ⟨A52, m52, cc52, rfl⟩ := hf5
     obtain ⟨A62, m62, cc62, rfl⟩ := hf6
     have x0 : wr.cell? ⟨g, og + i * 7, none⟩ = some (.int .i64 k2) := hcell 0 _ rfl
     have x1 : wr.cell? ⟨g, og + i * 7 + 1, none⟩ = some (.int .i64 a2) := hcell 1 _ rfl
     have x2 : wr.cell? ⟨g, og + i * 7 + 2, none⟩ = some (.string ⟨nm2.toArray⟩) := hcell 2 _ rfl
     have x3 : wr.cell? ⟨g, og + i * 7 + 3, none⟩ = some (.int .i64 n2) := hcell 3 _ rfl
     have x4 : wr.cell? ⟨g, og + i * 7 + 4, none⟩ = some (.string ⟨s2.toArray⟩) := hcell 4 _ rfl
     have x5 : wr.cell? ⟨g, og + i * 7 + 5, none⟩ = some (.slice A52 m52 cc52) := hcell 5 _ rfl
     have x6 : wr.cell? ⟨g, og + i * 7 + 6, none⟩ = some (.slice A62 m62 cc62) := hcell 6 _ rfl
     have hsz2 := szPs_get HY.out
     have cP := fun W (hW : Fr [] wr W) => Lib.hid (IH.out k2 a2 nm2 n2 s2 ls2 args2 (.slice A52 m52 cc52) (.slice A62 m62 cc62) (d + 1) (D + 1) W τ (by have := HN.out; omega) (by rw [HD.out]; simp) (by omega) (by have := f.size; have := hW.size; omega) (hyw.keep (Sh.of_fr hW (fun b hb hlt => ⟨hb, fun x => by cases x⟩))) (hs.fr hW) hok.out)
     have hDQ := HDQ.out
     clear hcell hci hcc hcs hcl hyw hg
     have q1 : (0 : Int) ≤ (i : Int) := by omega
     have q2 : (i : Int) < (args.length : Int) := by omega
     go_wp2_with fail
     have fb : Fr [] wr (wr.alloc (.cells #[.int .i64 k2, .int .i64 a2, .string ⟨nm2.toArray⟩, .int .i64 n2, .string ⟨s2.toArray⟩, .slice A52 m52 cc52, .slice A62 m62 cc62] 62)) := (Fr.refl [] wr).alloc _
     refine (cP _ fb).out.mono ?_
     rintro e w3 ⟨rfl, hs3, f3⟩
     clear x0 x1 x2 x3 x4 x5 x6 cP hDQ
     have f3 := (fb.mono (L' := [pa, pf]) (fun x hx => by cases hx)).trans f3
     have f4 := f.trans f3
     cases hb2 : (goL (deepF most) τ (partsP (.mk k2 a2 nm2 n2 s2 ls2 args2) (d + 1))).2 with
     | false =>
      go_wp2_with fail
      go_ret
      have e : R = ((goL (deepF most) τ (partsP (.mk k2 a2 nm2 n2 s2 ls2 args2) (d + 1))).1, false) := by rw [HG.out, partsPs_drop HY.out, goL_app, if_neg (by rw [hb2]; decide)]
      rw [e]
      exact ⟨rfl, hs3, f4⟩
     | true =>
      have HG2 : Hid (R = goL (deepF most) (goL (deepF most) τ (partsP (.mk k2 a2 nm2 n2 s2 ls2 args2) (d + 1))).1 (partsPs (args.drop (i + 1)) (d + 1))) := Lib.hid (by rw [HG.out, partsPs_drop HY.out, goL_app, if_pos hb2])
      have hok3 : Hid ((goL (deepF most) τ (partsP (.mk k2 a2 nm2 n2 s2 ls2 args2) (d + 1))).1.2 = false) := Lib.hid (deep_ok hok.out hb2)
      clear hb2 HG hok
      go_wp2_with fail
      go_roundw
      case rel => exact ⟨i + 1, _, by simp, by omega, hs3, hok3, f4, HG2⟩
      case measure => simp [intOf]; omega
   ·have ei : i = args.length := by omega
    subst ei
    go_wp2_with fail
    go_ret
    have e : R = (τ, true) := by rw [HG.out, List.drop_length]; simp [partsPs, goL]
    rw [e]
    exact ⟨rfl, hs, f⟩
theorem patsD_all (pm pa pf : Nat) (most : Int) (lo : Nat) (hl : lo ≤ pa) (hl2 : lo ≤ pf) : ∀ N, PTD pm pa pf most lo N
 | 0 => fun _ _ _ _ _ _ _ _ _ _ _ _ _ h => absurd h (Nat.not_lt_zero _)
 | N + 1 => patsD_step pm pa pf most lo hl hl2 N (patsD_all pm pa pf most lo hl hl2 N)
end Go.Proofs.YtpjkfeehgookkaaGreatDoor
namespace Go.Proofs.YtpjkfeehgookkaaGreatDoor
open Go.RowKit
attribute [local go_sem ↓] Go.wp_at_zero Go.wp_at_succ
def WTD (pm pa pf : Nat) (most : Int) (lo N : Nat) : Prop := ∀ (k a : Int) (nm : List UInt8) (n : Int) (s : List UInt8) (ls : List (List UInt8)) (args : List ExprT) (arms : List (PatT × ExprT)) (v5 v6 v7 : Value) (d : Nat) (D : Int) (w : World) (σ : (Int × Bool)), szE (.mk k a nm n s ls args arms) < N → D = d → d + szE (.mk k a nm n s ls args arms) ≤ 1099511627776 → lo ≤ w.heap.size →
  ExprAt w (fun b => b < lo) (.mk k a nm n s ls args arms) [.int .i64 k, .int .i64 a, .string ⟨nm.toArray⟩, .int .i64 n, .string ⟨s.toArray⟩, v5, v6, v7] → DS pm pa pf most σ w → σ.2 = false →
  Calls Tryz.prog 27 #[.agg #[.int .i64 k, .int .i64 a, .string ⟨nm.toArray⟩, .int .i64 n, .string ⟨s.toArray⟩, v5, v6, v7], .int .i64 D, .func (.func 28) #[] #[.pointer (some ⟨pm, 0, none⟩), .pointer (some ⟨pa, 0, none⟩), .pointer (some ⟨pf, 0, none⟩)]] w fun e w' => e = .returned (.bool (goL (deepF most) σ (partsE (.mk k a nm n s ls args arms) d)).2) ∧ DS pm pa pf most (goL (deepF most) σ (partsE (.mk k a nm n s ls args arms) d)).1 w' ∧ Fr [pa, pf] w w'
set_option maxHeartbeats 8000000 in
set_option maxRecDepth 100000 in
theorem walkD_step (pm pa pf : Nat) (most : Int) (lo : Nat) (hl : lo ≤ pa) (hl2 : lo ≤ pf) (N : Nat) (ih : WTD pm pa pf most lo N) : WTD pm pa pf most lo (N + 1) := by
 intro k a nm n s ls args arms v5 v6 v7 d D w σ hN hD hb hlo hx hs hok
 cases hx with
 | mk c5 c6 cp ce h5 e5 h6 e6 h7 e7 e8 =>
 have hsz : szE (.mk k a nm n s ls args arms) = 1 + (szEs args + szAs arms) := by simp [szE]
 rw [hsz] at hN hb
 rw [partsE_mk, goL]
 have hform : ∃ A6 m6 cc6, v6 = .slice A6 m6 cc6 ∧ m6 = args.length := by
  obtain ⟨_, _, hv⟩ := h6.form
  exact ⟨_, _, _, hv, rfl⟩
 obtain ⟨A6, m6, cc6, rfl, rfl⟩ := hform
 have hform : ∃ A7 m7 cc7, v7 = .slice A7 m7 cc7 ∧ m7 = arms.length := by
  obtain ⟨_, _, hv⟩ := h7.form
  exact ⟨_, _, _, hv, rfl⟩
 obtain ⟨A7, m7, cc7, rfl, rfl⟩ := hform
 have IH := Lib.hid ih
 have H6 := Lib.hid h6
 have H7 := Lib.hid h7
 have E6 : Hid (∀ (i : Nat) (x : ExprT), args[i]? = some x → ExprAt w (fun b => b < lo) x (c6 i)) := Lib.hid e6
 have E7 : Hid (∀ (i : Nat) (p : PatT) (x : ExprT), arms[i]? = some (p, x) → PatAt w (fun b => b < lo) p (cp i)) := Lib.hid e7
 have E8 : Hid (∀ (i : Nat) (p : PatT) (x : ExprT), arms[i]? = some (p, x) → ExprAt w (fun b => b < lo) x (ce i)) := Lib.hid e8
 have HD := Lib.hid hD
 have HS := Lib.hid hs
 have hpn := lt_of_heap hs.a
 have hpn2 := lt_of_heap hs.f
 have HOK := Lib.hid hok
 have HN := Lib.hid hN
 have hdn : (0 : Int) ≤ D := by omega
 have hdx : D ≤ 1099511627776 := by omega
 have HDQ : Hid (IntKind.i64.wrap (D + 1) = D + 1) := Lib.hid (IntWalk.i64_in _ (by omega))
 have hm6 : (args.length : Int) ≤ 4611686018427387903 := by have : args.length ≤ szEs args := szEs_ge args; omega
 have hm7 : (arms.length : Int) ≤ 4611686018427387903 := by have : arms.length ≤ szAs arms := szAs_ge arms; omega
 clear ih h5 e5 h6 e6 h7 e7 e8 hs hok hD hN hsz
 generalize hR : (if ((deepF most) σ (a, d)).2 = true then goL (deepF most) ((deepF most) σ (a, d)).1 (partsEs args (d + 1) ++ partsAs arms (d + 1)) else (((deepF most) σ (a, d)).1, false)) = R
 have HR := Lib.hid hR
 clear hR
 go_enter Tryz.func27, Tryz.ntmps27
 go_wp2_with fail
 have f0 : Fr [] w (w.alloc (.cells #[.int .i64 k, .int .i64 a, .string ⟨nm.toArray⟩, .int .i64 n, .string ⟨s.toArray⟩, v5, .slice A6 args.length cc6, .slice A7 arms.length cc7] 27)) := (Fr.refl [] w).alloc _
 have q0 := heap_new w (.cells #[.int .i64 k, .int .i64 a, .string ⟨nm.toArray⟩, .int .i64 n, .string ⟨s.toArray⟩, v5, .slice A6 args.length cc6, .slice A7 arms.length cc7] 27)
 generalize w.alloc (.cells #[.int .i64 k, .int .i64 a, .string ⟨nm.toArray⟩, .int .i64 n, .string ⟨s.toArray⟩, v5, .slice A6 args.length cc6, .slice A7 arms.length cc7] 27) = w1 at *
 have hT1 := lt_of_heap q0
 generalize hT : w.heap.size = T at *
 refine (eachD pm pa pf most σ a D d HD.out w1 (HS.out.fr f0) HOK.out).mono ?_
 rintro e w2 ⟨rfl, hs2, f2⟩
 have q0 := f2.keep q0 (by simp; omega)
 have f2 := (f0.mono (L' := [pa, pf]) (fun x hx => by cases hx)).trans f2
 cases hb1 : ((deepF most) σ (a, d)).2 with
 | false =>
  go_wp2_with fail
  go_ret
  have e : R = (((deepF most) σ (a, d)).1, false) := by rw [← HR.out, if_neg (by rw [hb1]; decide)]
  rw [e]
  exact ⟨rfl, hs2, f2⟩
 | true =>
  have HG : Hid (R = goL (deepF most) ((deepF most) σ (a, d)).1 (partsEs (args.drop 0) (d + 1) ++ partsAs arms (d + 1))) := Lib.hid (by rw [← HR.out, if_pos hb1]; rfl)
  have hok2 : Hid (((deepF most) σ (a, d)).1.2 = false) := Lib.hid (deepF_ok HOK.out hb1)
  clear hb1 HR
  have hTx := lt_of_heap q0
  obtain ⟨⟨l0, l1, l2, l3, l4, l5, l6, l7⟩, _⟩ := cells8 q0
  go_wp2_with fail
  clear l0 l1 l2 l3 l4 l5 l6 l7
  go_loopw [20] (fun iv wr => ∃ (i : Nat) (τ : (Int × Bool)), iv = .int .i64 i ∧ i ≤ args.length ∧ DS pm pa pf most τ wr ∧ Hid (τ.2 = false) ∧ Fr [pa, pf] w wr ∧ wr.heap[T]? = some (.cells #[.int .i64 k, .int .i64 a, .string ⟨nm.toArray⟩, .int .i64 n, .string ⟨s.toArray⟩, v5, .slice A6 args.length cc6, .slice A7 arms.length cc7] 27 (0, 0)) ∧ Hid (R = goL (deepF most) τ (partsEs (args.drop i) (d + 1) ++ partsAs arms (d + 1)))) (fun iv wr => args.length - (intOf iv).toNat)
  case atStart => exact ⟨0, _, rfl, by omega, hs2, hok2, f2, q0, HG⟩
  case round =>
   obtain ⟨i, τ, rfl, hi, hs, hok, f, q0', HG⟩ := hrel
   clear hok2 hs2 f2 q0 hTx
   have q0 := q0'
   clear q0'
   have hTw := lt_of_heap q0
   by_cases hlt : i < args.length
   ·obtain ⟨y, hy⟩ : ∃ y, args[i]? = some y := ⟨args[i], List.getElem?_eq_getElem hlt⟩
    have HY := Lib.hid hy
    clear hy
    have hyx := E6.out i y HY.out
    rcases H6.out with ⟨_, _, _, hl⟩ | ⟨g, og, c', hv, hg, hgs, hcs⟩
    ·omega
    ·cases hv
     obtain ⟨hcl, hcc⟩ := hcs i hlt
     have hcell : ∀ (j : Nat) (v : Value), (c6 i)[j]? = some v → wr.cell? ⟨g, og + i * 8 + j, none⟩ = some v := fun j v hj => (f.cell (p := ⟨g, og + i * 8 + j, none⟩) hgs (by simp; omega)).trans (hcc j v hj)
     have hgw : g < wr.heap.size := Nat.lt_of_lt_of_le hgs (by have := f.size; omega)
     generalize hci : c6 i = ci at *
     have hyw := hyx.keep (w' := wr) (ok' := fun b => b < lo) (Sh.of_fr f (fun b hb hlt => ⟨hb, by simp; omega⟩))
     cases hyx with
     | @mk k2 a2 nm2 n2 s2 ls2 args2 arms2 v52 v62 v72 c52 c62 cp2 ce2 h52 e52 h62 e62 h72 e72 e82 =>
     have hf : ∃ A m cc, v52 = .slice A m cc := by obtain ⟨_, _, hv⟩ := h52.form; exact ⟨_, _, _, hv⟩
     obtain ⟨A52, m52, cc52, rfl⟩ := hf
     have hf : ∃ A m cc, v62 = .slice A m cc := by obtain ⟨_, _, hv⟩ := h62.form; exact ⟨_, _, _, hv⟩
     obtain ⟨A62, m62, cc62, rfl⟩ := hf
     have hf : ∃ A m cc, v72 = .slice A m cc := by obtain ⟨_, _, hv⟩ := h72.form; exact ⟨_, _, _, hv⟩
     obtain ⟨A72, m72, cc72, rfl⟩ := hf
     clear h52 e52 h62 e62 h72 e72 e82
     have x0 : wr.cell? ⟨g, og + i * 8, none⟩ = some (.int .i64 k2) := hcell 0 _ rfl
     have x1 : wr.cell? ⟨g, og + i * 8 + 1, none⟩ = some (.int .i64 a2) := hcell 1 _ rfl
     have x2 : wr.cell? ⟨g, og + i * 8 + 2, none⟩ = some (.string ⟨nm2.toArray⟩) := hcell 2 _ rfl
     have x3 : wr.cell? ⟨g, og + i * 8 + 3, none⟩ = some (.int .i64 n2) := hcell 3 _ rfl
     have x4 : wr.cell? ⟨g, og + i * 8 + 4, none⟩ = some (.string ⟨s2.toArray⟩) := hcell 4 _ rfl
     have x5 : wr.cell? ⟨g, og + i * 8 + 5, none⟩ = some (.slice A52 m52 cc52) := hcell 5 _ rfl
     have x6 : wr.cell? ⟨g, og + i * 8 + 6, none⟩ = some (.slice A62 m62 cc62) := hcell 6 _ rfl
     have x7 : wr.cell? ⟨g, og + i * 8 + 7, none⟩ = some (.slice A72 m72 cc72) := hcell 7 _ rfl
     have hsz2 := szEs_get HY.out
     have cP := fun W (hW : Fr [] wr W) => Lib.hid (IH.out k2 a2 nm2 n2 s2 ls2 args2 arms2 (.slice A52 m52 cc52) (.slice A62 m62 cc62) (.slice A72 m72 cc72) (d + 1) (D + 1) W τ (by have := HN.out; omega) (by rw [HD.out]; simp) (by omega) (by have := f.size; have := hW.size; omega) (hyw.keep (Sh.of_fr hW (fun b hb hlt => ⟨hb, fun x => by cases x⟩))) (hs.fr hW) hok.out)
     have hDQ := HDQ.out
     clear hcell hci hcc hcs hcl hyw hg
     have q1 : (0 : Int) ≤ (i : Int) := by omega
     have q2 : (i : Int) < (args.length : Int) := by omega
     have q0 := Lib.hid q0
     go_wp2_with fail
     have fb : Fr [] wr (wr.alloc (.cells #[.int .i64 k2, .int .i64 a2, .string ⟨nm2.toArray⟩, .int .i64 n2, .string ⟨s2.toArray⟩, .slice A52 m52 cc52, .slice A62 m62 cc62, .slice A72 m72 cc72] 27)) := (Fr.refl [] wr).alloc _
     refine (cP _ fb).out.mono ?_
     rintro e w3 ⟨rfl, hs3, f3⟩
     clear x0 x1 x2 x3 x4 x5 x6 x7 cP hDQ
     have q0 := f3.keep (heap_old q0.out (.cells #[.int .i64 k2, .int .i64 a2, .string ⟨nm2.toArray⟩, .int .i64 n2, .string ⟨s2.toArray⟩, .slice A52 m52 cc52, .slice A62 m62 cc62, .slice A72 m72 cc72] 27)) (by simp; omega)
     have f3 := (fb.mono (L' := [pa, pf]) (fun x hx => by cases hx)).trans f3
     have f4 := f.trans f3
     cases hb2 : (goL (deepF most) τ (partsE (.mk k2 a2 nm2 n2 s2 ls2 args2 arms2) (d + 1))).2 with
     | false =>
      go_wp2_with fail
      go_ret
      have e : R = ((goL (deepF most) τ (partsE (.mk k2 a2 nm2 n2 s2 ls2 args2 arms2) (d + 1))).1, false) := by rw [HG.out, partsEs_drop HY.out, List.append_assoc, goL_app, if_neg (by rw [hb2]; decide)]
      rw [e]
      exact ⟨rfl, hs3, f4⟩
     | true =>
      have HG2 : Hid (R = goL (deepF most) (goL (deepF most) τ (partsE (.mk k2 a2 nm2 n2 s2 ls2 args2 arms2) (d + 1))).1 (partsEs (args.drop (i + 1)) (d + 1) ++ partsAs arms (d + 1))) := Lib.hid (by rw [HG.out, partsEs_drop HY.out, List.append_assoc, goL_app, if_pos hb2])
      have hok3 : Hid ((goL (deepF most) τ (partsE (.mk k2 a2 nm2 n2 s2 ls2 args2 arms2) (d + 1))).1.2 = false) := Lib.hid (deep_ok hok.out hb2)
      clear hb2 HG hok
      have q0 := Lib.hid q0
      go_wp2_with fail
      go_roundw
      case rel => exact ⟨i + 1, _, by simp, by omega, hs3, hok3, f4, q0.out, HG2⟩
      case measure => simp [intOf]; omega
   ·have ei : i = args.length := by omega
    subst ei
    obtain ⟨⟨l0, l1, l2, l3, l4, l5, l6, l7⟩, _⟩ := cells8 q0
    have HG2 : Hid (R = goL (deepF most) τ (partsAs (arms.drop 0) (d + 1))) := Lib.hid (by rw [HG.out, List.drop_length]; simp [partsEs])
    clear HG q0
    go_wp2_with fail
    clear l0 l1 l2 l3 l4 l5 l6 l7
    go_loopw [34] (fun iv wr => ∃ (i : Nat) (τ : (Int × Bool)), iv = .int .i64 i ∧ i ≤ arms.length ∧ DS pm pa pf most τ wr ∧ Hid (τ.2 = false) ∧ Fr [pa, pf] w wr ∧ Hid (R = goL (deepF most) τ (partsAs (arms.drop i) (d + 1)))) (fun iv wr => arms.length - (intOf iv).toNat)
    case atStart => exact ⟨0, _, rfl, by omega, hs, hok, f, HG2⟩
    case round =>
     clear HG2 hs hok hTw f
     obtain ⟨i, τ', rfl, hi', hs, hok, f, HG⟩ := hrel
     by_cases hlt : i < arms.length
     ·obtain ⟨p, y, hy⟩ : ∃ p y, arms[i]? = some (p, y) := ⟨(arms[i]).1, (arms[i]).2, List.getElem?_eq_getElem hlt⟩
      have HY := Lib.hid hy
      clear hy
      have hpx := E7.out i p y HY.out
      have hyx := E8.out i p y HY.out
      rcases H7.out with ⟨_, _, _, hl⟩ | ⟨g, og, c', hv, hg, hgs, hcs⟩
      ·omega
      ·cases hv
       obtain ⟨hcl, hcc⟩ := hcs i hlt
       have hcell : ∀ (j : Nat) (v : Value), (cp i ++ ce i)[j]? = some v → wr.cell? ⟨g, og + i * 15 + j, none⟩ = some v := fun j v hj => (f.cell (p := ⟨g, og + i * 15 + j, none⟩) hgs (by simp; omega)).trans (hcc j v hj)
       have hgw : g < wr.heap.size := Nat.lt_of_lt_of_le hgs (by have := f.size; omega)
       clear hcc hcs
       generalize hci : cp i = ci at *
       generalize hce : ce i = cj at *
       have hyw := hyx.keep (w' := wr) (ok' := fun b => b < lo) (Sh.of_fr f (fun b hb hlt => ⟨hb, by simp; omega⟩))
       have hpw := hpx.keep (w' := wr) (ok' := fun b => b < lo) (Sh.of_fr f (fun b hb hlt => ⟨hb, by simp; omega⟩))
       cases hpx with
       | @mk k3 a3 nm3 n3 s3 ls3 args3 v53 v63 c53 c63 h53 e53 h63 e63 =>
       cases hyx with
       | @mk k2 a2 nm2 n2 s2 ls2 args2 arms2 v52 v62 v72 c52 c62 cp2 ce2 h52 e52 h62 e62 h72 e72 e82 =>
       have hf : ∃ A m cc, v53 = .slice A m cc := by obtain ⟨_, _, hv⟩ := h53.form; exact ⟨_, _, _, hv⟩
       obtain ⟨A53, m53, cc53, rfl⟩ := hf
       have hf : ∃ A m cc, v63 = .slice A m cc := by obtain ⟨_, _, hv⟩ := h63.form; exact ⟨_, _, _, hv⟩
       obtain ⟨A63, m63, cc63, rfl⟩ := hf
       have hf : ∃ A m cc, v52 = .slice A m cc := by obtain ⟨_, _, hv⟩ := h52.form; exact ⟨_, _, _, hv⟩
       obtain ⟨A52, m52, cc52, rfl⟩ := hf
       have hf : ∃ A m cc, v62 = .slice A m cc := by obtain ⟨_, _, hv⟩ := h62.form; exact ⟨_, _, _, hv⟩
       obtain ⟨A62, m62, cc62, rfl⟩ := hf
       have hf : ∃ A m cc, v72 = .slice A m cc := by obtain ⟨_, _, hv⟩ := h72.form; exact ⟨_, _, _, hv⟩
       obtain ⟨A72, m72, cc72, rfl⟩ := hf
       clear h52 e52 h62 e62 h72 e72 e82 h53 e53 h63 e63
       have x0 : wr.cell? ⟨g, og + i * 15, none⟩ = some (.int .i64 k3) := hcell 0 _ rfl
       have x1 : wr.cell? ⟨g, og + i * 15 + 1, none⟩ = some (.int .i64 a3) := hcell 1 _ rfl
       have x2 : wr.cell? ⟨g, og + i * 15 + 2, none⟩ = some (.string ⟨nm3.toArray⟩) := hcell 2 _ rfl
       have x3 : wr.cell? ⟨g, og + i * 15 + 3, none⟩ = some (.int .i64 n3) := hcell 3 _ rfl
       have x4 : wr.cell? ⟨g, og + i * 15 + 4, none⟩ = some (.string ⟨s3.toArray⟩) := hcell 4 _ rfl
       have x5 : wr.cell? ⟨g, og + i * 15 + 5, none⟩ = some (.slice A53 m53 cc53) := hcell 5 _ rfl
       have x6 : wr.cell? ⟨g, og + i * 15 + 6, none⟩ = some (.slice A63 m63 cc63) := hcell 6 _ rfl
       have x7 : wr.cell? ⟨g, og + i * 15 + 7, none⟩ = some (.int .i64 k2) := hcell 7 _ rfl
       have x8 : wr.cell? ⟨g, og + i * 15 + 8, none⟩ = some (.int .i64 a2) := hcell 8 _ rfl
       have x9 : wr.cell? ⟨g, og + i * 15 + 9, none⟩ = some (.string ⟨nm2.toArray⟩) := hcell 9 _ rfl
       have x10 : wr.cell? ⟨g, og + i * 15 + 10, none⟩ = some (.int .i64 n2) := hcell 10 _ rfl
       have x11 : wr.cell? ⟨g, og + i * 15 + 11, none⟩ = some (.string ⟨s2.toArray⟩) := hcell 11 _ rfl
       have x12 : wr.cell? ⟨g, og + i * 15 + 12, none⟩ = some (.slice A52 m52 cc52) := hcell 12 _ rfl
       have x13 : wr.cell? ⟨g, og + i * 15 + 13, none⟩ = some (.slice A62 m62 cc62) := hcell 13 _ rfl
       have x14 : wr.cell? ⟨g, og + i * 15 + 14, none⟩ = some (.slice A72 m72 cc72) := hcell 14 _ rfl
       have hsz2 := szAs_get HY.out
       have cP := fun W (hW : Fr [] wr W) => Lib.hid (patsD_all pm pa pf most lo hl hl2 (szP (.mk k3 a3 nm3 n3 s3 ls3 args3) + 1) k3 a3 nm3 n3 s3 ls3 args3 (.slice A53 m53 cc53) (.slice A63 m63 cc63) (d + 1) (D + 1) W τ' (by omega) (by rw [HD.out]; simp) (by omega) (by have := f.size; have := hW.size; omega) (hpw.keep (Sh.of_fr hW (fun b hb hlt => ⟨hb, fun x => by cases x⟩))) (hs.fr hW) hok.out)
       have cE := fun W (hW : Fr [pa, pf] wr W) τ2 (hs2 : DS pm pa pf most τ2 W) (hok2 : τ2.2 = false) => Lib.hid (IH.out k2 a2 nm2 n2 s2 ls2 args2 arms2 (.slice A52 m52 cc52) (.slice A62 m62 cc62) (.slice A72 m72 cc72) (d + 1) (D + 1) W τ2 (by have := HN.out; omega) (by rw [HD.out]; simp) (by omega) (by have := f.size; have := hW.size; omega) (hyw.keep (Sh.of_fr hW (fun b hb hlt => ⟨hb, by simp; omega⟩))) hs2 hok2)
       have hDQ := HDQ.out
       clear hcell hci hce hcl hyw hpw hg
       have q1 : (0 : Int) ≤ (i : Int) := by omega
       have q2 : (i : Int) < (arms.length : Int) := by omega
       go_wp2_with fail
       have fb : Fr [] wr (wr.alloc (.cells #[.int .i64 k3, .int .i64 a3, .string ⟨nm3.toArray⟩, .int .i64 n3, .string ⟨s3.toArray⟩, .slice A53 m53 cc53, .slice A63 m63 cc63, .int .i64 k2, .int .i64 a2, .string ⟨nm2.toArray⟩, .int .i64 n2, .string ⟨s2.toArray⟩, .slice A52 m52 cc52, .slice A62 m62 cc62, .slice A72 m72 cc72] 64)) := (Fr.refl [] wr).alloc _
       have qb := heap_new wr (.cells #[.int .i64 k3, .int .i64 a3, .string ⟨nm3.toArray⟩, .int .i64 n3, .string ⟨s3.toArray⟩, .slice A53 m53 cc53, .slice A63 m63 cc63, .int .i64 k2, .int .i64 a2, .string ⟨nm2.toArray⟩, .int .i64 n2, .string ⟨s2.toArray⟩, .slice A52 m52 cc52, .slice A62 m62 cc62, .slice A72 m72 cc72] 64)
       have hTb : wr.heap.size < (wr.alloc (.cells #[.int .i64 k3, .int .i64 a3, .string ⟨nm3.toArray⟩, .int .i64 n3, .string ⟨s3.toArray⟩, .slice A53 m53 cc53, .slice A63 m63 cc63, .int .i64 k2, .int .i64 a2, .string ⟨nm2.toArray⟩, .int .i64 n2, .string ⟨s2.toArray⟩, .slice A52 m52 cc52, .slice A62 m62 cc62, .slice A72 m72 cc72] 64)).heap.size := lt_of_heap qb
       refine (cP _ fb).out.mono ?_
       rintro e w3 ⟨rfl, hs3, f3⟩
       clear cP x0 x1 x2 x3 x4 x5 x6 x7 x8 x9 x10 x11 x12 x13 x14
       have qb := f3.keep qb (by simp; have := f.size; omega)
       have f3 := (fb.mono (L' := [pa, pf]) (fun x hx => by cases hx)).trans f3
       have f4 := f.trans f3
       have hTb3 := lt_of_heap qb
       have M15 : w3.cell? ⟨wr.heap.size, 0, none⟩ = some (.int .i64 k3) ∧ w3.cell? ⟨wr.heap.size, 1, none⟩ = some (.int .i64 a3) ∧ w3.cell? ⟨wr.heap.size, 2, none⟩ = some (.string ⟨nm3.toArray⟩) ∧ w3.cell? ⟨wr.heap.size, 3, none⟩ = some (.int .i64 n3) ∧ w3.cell? ⟨wr.heap.size, 4, none⟩ = some (.string ⟨s3.toArray⟩) ∧ w3.cell? ⟨wr.heap.size, 5, none⟩ = some (.slice A53 m53 cc53) ∧ w3.cell? ⟨wr.heap.size, 6, none⟩ = some (.slice A63 m63 cc63) ∧ w3.cell? ⟨wr.heap.size, 7, none⟩ = some (.int .i64 k2) ∧ w3.cell? ⟨wr.heap.size, 8, none⟩ = some (.int .i64 a2) ∧ w3.cell? ⟨wr.heap.size, 9, none⟩ = some (.string ⟨nm2.toArray⟩) ∧ w3.cell? ⟨wr.heap.size, 10, none⟩ = some (.int .i64 n2) ∧ w3.cell? ⟨wr.heap.size, 11, none⟩ = some (.string ⟨s2.toArray⟩) ∧ w3.cell? ⟨wr.heap.size, 12, none⟩ = some (.slice A52 m52 cc52) ∧ w3.cell? ⟨wr.heap.size, 13, none⟩ = some (.slice A62 m62 cc62) ∧ w3.cell? ⟨wr.heap.size, 14, none⟩ = some (.slice A72 m72 cc72) := ⟨cell_of qb 0, cell_of qb 1, cell_of qb 2, cell_of qb 3, cell_of qb 4, cell_of qb 5, cell_of qb 6, cell_of qb 7, cell_of qb 8, cell_of qb 9, cell_of qb 10, cell_of qb 11, cell_of qb 12, cell_of qb 13, cell_of qb 14⟩
       obtain ⟨m0, m1, m2, m3, m4, m5, m6, m7, m8, m9, m10, m11, m12, m13, m14⟩ := M15
       cases hb2 : (goL (deepF most) τ' (partsP (.mk k3 a3 nm3 n3 s3 ls3 args3) (d + 1))).2 with
       | false =>
        go_wp2_with fail
        go_ret
        have e : R = ((goL (deepF most) τ' (partsP (.mk k3 a3 nm3 n3 s3 ls3 args3) (d + 1))).1, false) := by rw [HG.out, partsAs_drop HY.out, goL_app, if_neg (by rw [hb2]; decide)]
        rw [e]
        exact ⟨rfl, hs3, f4⟩
       | true =>
        have hok3 : Hid ((goL (deepF most) τ' (partsP (.mk k3 a3 nm3 n3 s3 ls3 args3) (d + 1))).1.2 = false) := Lib.hid (deep_ok hok.out hb2)
        have HG2 : Hid (R = goL (deepF most) (goL (deepF most) τ' (partsP (.mk k3 a3 nm3 n3 s3 ls3 args3) (d + 1))).1 (partsE (.mk k2 a2 nm2 n2 s2 ls2 args2 arms2) (d + 1) ++ partsAs (arms.drop (i + 1)) (d + 1))) := Lib.hid (by rw [HG.out, partsAs_drop HY.out, goL_app, if_pos hb2])
        clear hb2
        go_wp2_with fail
        refine (cE _ f3 _ hs3 hok3.out).out.mono ?_
        rintro e w4 ⟨rfl, hs4, f5⟩
        clear m0 m1 m2 m3 m4 m5 m6 m7 m8 m9 m10 m11 m12 m13 m14 cE hDQ
        have f6 := f4.trans f5
        cases hb3 : (goL (deepF most) (goL (deepF most) τ' (partsP (.mk k3 a3 nm3 n3 s3 ls3 args3) (d + 1))).1 (partsE (.mk k2 a2 nm2 n2 s2 ls2 args2 arms2) (d + 1))).2 with
        | false =>
         go_wp2_with fail
         go_ret
         have e : R = ((goL (deepF most) (goL (deepF most) τ' (partsP (.mk k3 a3 nm3 n3 s3 ls3 args3) (d + 1))).1 (partsE (.mk k2 a2 nm2 n2 s2 ls2 args2 arms2) (d + 1))).1, false) := by rw [HG2.out, goL_app, if_neg (by rw [hb3]; decide)]
         rw [e]
         exact ⟨rfl, hs4, f6⟩
        | true =>
         have hok4 : Hid ((goL (deepF most) (goL (deepF most) τ' (partsP (.mk k3 a3 nm3 n3 s3 ls3 args3) (d + 1))).1 (partsE (.mk k2 a2 nm2 n2 s2 ls2 args2 arms2) (d + 1))).1.2 = false) := Lib.hid (deep_ok hok3.out hb3)
         have HG3 : Hid (R = goL (deepF most) (goL (deepF most) (goL (deepF most) τ' (partsP (.mk k3 a3 nm3 n3 s3 ls3 args3) (d + 1))).1 (partsE (.mk k2 a2 nm2 n2 s2 ls2 args2 arms2) (d + 1))).1 (partsAs (arms.drop (i + 1)) (d + 1))) := Lib.hid (by rw [HG2.out, goL_app, if_pos hb3])
         clear hb3 HG2 HG hok3 hok
         go_wp2_with fail
         go_roundw
         case rel => exact ⟨i + 1, _, by simp, by omega, hs4, hok4, f6, HG3⟩
         case measure => simp [intOf]; omega
     ·have ei : i = arms.length := by omega
      subst ei
      go_wp2_with fail
      go_ret
      have e : R = (τ', true) := by rw [HG.out, List.drop_length]; simp [partsAs, goL]
      rw [e]
      exact ⟨rfl, hs, f⟩
theorem walkD_all (pm pa pf : Nat) (most : Int) (lo : Nat) (hl : lo ≤ pa) (hl2 : lo ≤ pf) : ∀ N, WTD pm pa pf most lo N
 | 0 => fun _ _ _ _ _ _ _ _ _ _ _ _ _ _ _ h => absurd h (Nat.not_lt_zero _)
 | N + 1 => walkD_step pm pa pf most lo hl hl2 N (walkD_all pm pa pf most lo hl hl2 N)
end Go.Proofs.YtpjkfeehgookkaaGreatDoor
namespace Go.Proofs.YtpjkfeehgookkaaGreatDoor
open Go.RowKit
attribute [local go_sem ↓] Go.wp_at_zero Go.wp_at_succ
set_option maxHeartbeats 4000000 in
set_option maxRecDepth 100000 in
theorem Count_any (k a : Int) (nm : List UInt8) (n : Int) (s : List UInt8) (ls : List (List UInt8)) (args : List ExprT) (arms : List (PatT × ExprT)) (A5 : Option Addr) (m5 cc5 : Nat) (A6 : Option Addr) (m6 cc6 : Nat) (A7 : Option Addr) (m7 cc7 : Nat) (most : Int) (hm0 : 0 ≤ most) (hm1 : most ≤ 1099511627776) (w : World) (hx : ExprAt w (fun b => b < w.heap.size) (.mk k a nm n s ls args arms) [.int .i64 k, .int .i64 a, .string ⟨nm.toArray⟩, .int .i64 n, .string ⟨s.toArray⟩, .slice A5 m5 cc5, .slice A6 m6 cc6, .slice A7 m7 cc7]) (hsz : szE (.mk k a nm n s ls args arms) ≤ 1099511627775) :
  Calls Tryz.prog 17 #[.agg #[.int .i64 k, .int .i64 a, .string ⟨nm.toArray⟩, .int .i64 n, .string ⟨s.toArray⟩, .slice A5 m5 cc5, .slice A6 m6 cc6, .slice A7 m7 cc7], .int .i64 most] w fun e w' => e = .returned (.int .i64 (min (szE (.mk k a nm n s ls args arms) : Int) (most + 1))) ∧ Fr [] w w' := by
 have hG : goL (cntF most) 0 (partsE (.mk k a nm n s ls args arms) 1) = (min (szE (.mk k a nm n s ls args arms) : Int) (most + 1), decide ((szE (.mk k a nm n s ls args arms) : Int) ≤ most)) := by
  rw [cnt_go most _ 0 hm0, partsE_len]
  simp
 have HX := Lib.hid hx
 have HSZ := Lib.hid hsz
 have HG := Lib.hid hG
 have cW := fun lo N pn pm hl => Lib.hid (walkC_all pn pm most lo hl N k a nm n s ls args arms (.slice A5 m5 cc5) (.slice A6 m6 cc6) (.slice A7 m7 cc7) 1 1)
 generalize min (szE (.mk k a nm n s ls args arms) : Int) (most + 1) = R at *
 clear hx hsz hG
 go_enter Tryz.func17, Tryz.ntmps17
 go_wp2_with fail
 have f0 : Fr [] w (((w.alloc (.cells #[.int .i64 k, .int .i64 a, .string ⟨nm.toArray⟩, .int .i64 n, .string ⟨s.toArray⟩, .slice A5 m5 cc5, .slice A6 m6 cc6, .slice A7 m7 cc7] 27)).alloc (.cells #[.int .i64 most] 3)).alloc (.cells #[.int .i64 0] 3)) := ((((Fr.refl [] w).alloc _).alloc _).alloc _)
 have s1 : (w.alloc (.cells #[.int .i64 k, .int .i64 a, .string ⟨nm.toArray⟩, .int .i64 n, .string ⟨s.toArray⟩, .slice A5 m5 cc5, .slice A6 m6 cc6, .slice A7 m7 cc7] 27)).heap.size = w.heap.size + 1 := by simp
 have s2 : ((w.alloc (.cells #[.int .i64 k, .int .i64 a, .string ⟨nm.toArray⟩, .int .i64 n, .string ⟨s.toArray⟩, .slice A5 m5 cc5, .slice A6 m6 cc6, .slice A7 m7 cc7] 27)).alloc (.cells #[.int .i64 most] 3)).heap.size = w.heap.size + 2 := by simp
 have hpm := heap_old (heap_new (w.alloc (.cells #[.int .i64 k, .int .i64 a, .string ⟨nm.toArray⟩, .int .i64 n, .string ⟨s.toArray⟩, .slice A5 m5 cc5, .slice A6 m6 cc6, .slice A7 m7 cc7] 27)) (.cells #[.int .i64 most] 3)) (.cells #[.int .i64 0] 3)
 have hpn := heap_new ((w.alloc (.cells #[.int .i64 k, .int .i64 a, .string ⟨nm.toArray⟩, .int .i64 n, .string ⟨s.toArray⟩, .slice A5 m5 cc5, .slice A6 m6 cc6, .slice A7 m7 cc7] 27)).alloc (.cells #[.int .i64 most] 3)) (.cells #[.int .i64 0] 3)
 rw [s1] at hpm
 rw [s2] at hpn
 have hCS : CS (w.heap.size + 2) (w.heap.size + 1) most 0 (((w.alloc (.cells #[.int .i64 k, .int .i64 a, .string ⟨nm.toArray⟩, .int .i64 n, .string ⟨s.toArray⟩, .slice A5 m5 cc5, .slice A6 m6 cc6, .slice A7 m7 cc7] 27)).alloc (.cells #[.int .i64 most] 3)).alloc (.cells #[.int .i64 0] 3)) := ⟨hpn, hpm, by omega, hm1, by omega⟩
 have hxx := HX.out.keep (w' := ((w.alloc (.cells #[.int .i64 k, .int .i64 a, .string ⟨nm.toArray⟩, .int .i64 n, .string ⟨s.toArray⟩, .slice A5 m5 cc5, .slice A6 m6 cc6, .slice A7 m7 cc7] 27)).alloc (.cells #[.int .i64 most] 3)).alloc (.cells #[.int .i64 0] 3)) (ok' := fun b => b < w.heap.size) (Sh.of_fr f0 (fun b hb hlt => ⟨hb, fun x => by cases x⟩))
 refine (cW w.heap.size (szE (.mk k a nm n s ls args arms) + 1) (w.heap.size + 2) (w.heap.size + 1) (by omega)).out _ 0 (by omega) rfl (by have := HSZ.out; omega) f0.size hxx hCS hm0 |>.mono ?_
 rintro e w2 ⟨rfl, hs2, f2⟩
 rw [HG.out] at hs2
 have c0 := cell_of hs2.n 0
 have hl2 := lt_of_heap hs2.n
 go_wp2_with fail
 go_ret
 exact ⟨rfl, f0.step f2 (fun x hx => .inr (by simp at hx; omega))⟩
def deepOf (most : Int) (x : ExprT) : Option (Int × Nat) := (partsE x 1).find? (fun p => decide (most < (p.2 : Int)))
set_option maxHeartbeats 4000000 in
set_option maxRecDepth 100000 in
theorem Deep_any (k a : Int) (nm : List UInt8) (n : Int) (s : List UInt8) (ls : List (List UInt8)) (args : List ExprT) (arms : List (PatT × ExprT)) (A5 : Option Addr) (m5 cc5 : Nat) (A6 : Option Addr) (m6 cc6 : Nat) (A7 : Option Addr) (m7 cc7 : Nat) (most : Int) (w : World) (hx : ExprAt w (fun b => b < w.heap.size) (.mk k a nm n s ls args arms) [.int .i64 k, .int .i64 a, .string ⟨nm.toArray⟩, .int .i64 n, .string ⟨s.toArray⟩, .slice A5 m5 cc5, .slice A6 m6 cc6, .slice A7 m7 cc7]) (hsz : szE (.mk k a nm n s ls args arms) ≤ 1099511627775) :
  Calls Tryz.prog 16 #[.agg #[.int .i64 k, .int .i64 a, .string ⟨nm.toArray⟩, .int .i64 n, .string ⟨s.toArray⟩, .slice A5 m5 cc5, .slice A6 m6 cc6, .slice A7 m7 cc7], .int .i64 most] w fun e w' => (e = match deepOf most (.mk k a nm n s ls args arms) with
   | some p => .returned (.tuple #[.int .i64 p.1, .bool true])
   | none => .returned (.tuple #[.int .i64 0, .bool false])) ∧ Fr [] w w' := by
 have hG0 := deep_go most (partsE (.mk k a nm n s ls args arms) 1) 0
 have HX := Lib.hid hx
 have HSZ := Lib.hid hsz
 have cW := fun lo N pm pa pf hl hl2 => Lib.hid (walkD_all pm pa pf most lo hl hl2 N k a nm n s ls args arms (.slice A5 m5 cc5) (.slice A6 m6 cc6) (.slice A7 m7 cc7) 1 1)
 have key : ∃ (ra : Int) (rf : Bool), (goL (deepF most) (0, false) (partsE (.mk k a nm n s ls args arms) 1)).1 = (ra, rf) ∧ (match deepOf most (.mk k a nm n s ls args arms) with
   | some p => Ending.returned (.tuple #[.int .i64 p.1, .bool true])
   | none => .returned (.tuple #[.int .i64 0, .bool false])) = .returned (.tuple #[.int .i64 ra, .bool rf]) := by
  unfold deepOf
  rw [hG0]
  cases (partsE (.mk k a nm n s ls args arms) 1).find? (fun p => decide (most < (p.2 : Int))) with
  | none => exact ⟨_, _, rfl, rfl⟩
  | some p => exact ⟨_, _, rfl, rfl⟩
 obtain ⟨ra, rf, hG, hM⟩ := key
 rw [hM]
 have HG := Lib.hid hG
 clear hx hsz hG hM hG0
 go_enter Tryz.func16, Tryz.ntmps16
 go_wp2_with fail
 have f0 : Fr [] w ((((w.alloc (.cells #[.int .i64 k, .int .i64 a, .string ⟨nm.toArray⟩, .int .i64 n, .string ⟨s.toArray⟩, .slice A5 m5 cc5, .slice A6 m6 cc6, .slice A7 m7 cc7] 27)).alloc (.cells #[.int .i64 most] 3)).alloc (.cells #[.int .i64 0] 3)).alloc (.cells #[.bool false] 4)) := ((((Fr.refl [] w).alloc _).alloc _).alloc _).alloc _
 have s1 : (w.alloc (.cells #[.int .i64 k, .int .i64 a, .string ⟨nm.toArray⟩, .int .i64 n, .string ⟨s.toArray⟩, .slice A5 m5 cc5, .slice A6 m6 cc6, .slice A7 m7 cc7] 27)).heap.size = w.heap.size + 1 := by simp
 have s2 : ((w.alloc (.cells #[.int .i64 k, .int .i64 a, .string ⟨nm.toArray⟩, .int .i64 n, .string ⟨s.toArray⟩, .slice A5 m5 cc5, .slice A6 m6 cc6, .slice A7 m7 cc7] 27)).alloc (.cells #[.int .i64 most] 3)).heap.size = w.heap.size + 2 := by simp
 have s3 : (((w.alloc (.cells #[.int .i64 k, .int .i64 a, .string ⟨nm.toArray⟩, .int .i64 n, .string ⟨s.toArray⟩, .slice A5 m5 cc5, .slice A6 m6 cc6, .slice A7 m7 cc7] 27)).alloc (.cells #[.int .i64 most] 3)).alloc (.cells #[.int .i64 0] 3)).heap.size = w.heap.size + 3 := by simp
 have hpm := heap_old (heap_old (heap_new (w.alloc (.cells #[.int .i64 k, .int .i64 a, .string ⟨nm.toArray⟩, .int .i64 n, .string ⟨s.toArray⟩, .slice A5 m5 cc5, .slice A6 m6 cc6, .slice A7 m7 cc7] 27)) (.cells #[.int .i64 most] 3)) (.cells #[.int .i64 0] 3)) (.cells #[.bool false] 4)
 have hpa := heap_old (heap_new ((w.alloc (.cells #[.int .i64 k, .int .i64 a, .string ⟨nm.toArray⟩, .int .i64 n, .string ⟨s.toArray⟩, .slice A5 m5 cc5, .slice A6 m6 cc6, .slice A7 m7 cc7] 27)).alloc (.cells #[.int .i64 most] 3)) (.cells #[.int .i64 0] 3)) (.cells #[.bool false] 4)
 have hpf := heap_new (((w.alloc (.cells #[.int .i64 k, .int .i64 a, .string ⟨nm.toArray⟩, .int .i64 n, .string ⟨s.toArray⟩, .slice A5 m5 cc5, .slice A6 m6 cc6, .slice A7 m7 cc7] 27)).alloc (.cells #[.int .i64 most] 3)).alloc (.cells #[.int .i64 0] 3)) (.cells #[.bool false] 4)
 rw [s1] at hpm
 rw [s2] at hpa
 rw [s3] at hpf
 have hDS : DS (w.heap.size + 1) (w.heap.size + 2) (w.heap.size + 3) most (0, false) ((((w.alloc (.cells #[.int .i64 k, .int .i64 a, .string ⟨nm.toArray⟩, .int .i64 n, .string ⟨s.toArray⟩, .slice A5 m5 cc5, .slice A6 m6 cc6, .slice A7 m7 cc7] 27)).alloc (.cells #[.int .i64 most] 3)).alloc (.cells #[.int .i64 0] 3)).alloc (.cells #[.bool false] 4)) := ⟨hpm, hpa, hpf, by omega, by omega, by omega⟩
 have hxx := HX.out.keep (w' := (((w.alloc (.cells #[.int .i64 k, .int .i64 a, .string ⟨nm.toArray⟩, .int .i64 n, .string ⟨s.toArray⟩, .slice A5 m5 cc5, .slice A6 m6 cc6, .slice A7 m7 cc7] 27)).alloc (.cells #[.int .i64 most] 3)).alloc (.cells #[.int .i64 0] 3)).alloc (.cells #[.bool false] 4)) (ok' := fun b => b < w.heap.size) (Sh.of_fr f0 (fun b hb hlt => ⟨hb, fun x => by cases x⟩))
 refine (cW w.heap.size (szE (.mk k a nm n s ls args arms) + 1) (w.heap.size + 1) (w.heap.size + 2) (w.heap.size + 3) (by omega) (by omega)).out _ (0, false) (by omega) rfl (by have := HSZ.out; omega) f0.size hxx hDS rfl |>.mono ?_
 rintro e w2 ⟨rfl, hs2, f2⟩
 rw [HG.out] at hs2
 generalize (goL (deepF most) (0, false) (partsE (.mk k a nm n s ls args arms) 1)).2 = RB at *
 have c0 : w2.cell? ⟨w.heap.size + 2, 0, none⟩ = some (.int .i64 ra) := cell_of hs2.a 0
 have c1 : w2.cell? ⟨w.heap.size + 3, 0, none⟩ = some (.bool rf) := cell_of hs2.f 0
 have hl2 := lt_of_heap hs2.a
 have hl3 := lt_of_heap hs2.f
 go_wp2_with fail
 go_quiet (fail)
 go_wp2_with fail
 go_ret2
 exact ⟨rfl, (f0.step f2 (fun x hx => .inr (by simp at hx; omega))).drewN _⟩
end Go.Proofs.YtpjkfeehgookkaaGreatDoor
namespace Go.Proofs.YtpjkfeehgookkaaGreatDoor
open Go.RowKit
attribute [local go_sem ↓] Go.wp_at_zero Go.wp_at_succ
set_option maxHeartbeats 2000000 in
set_option maxRecDepth 100000 in
theorem seq_step (ts : List Tok) (hE : EndOk ts) (N : Nat) (ih : AllE ts N) : GE ts (N + 1) 13 .seq 20 := by
 intro P g c st w h hm
 have H := Lib.hid h
 have hP := lt_of_heap h.blk
 have hgl := h.lt
 have hin := h.inb
 have HN := Lib.hid hm
 have HE := Lib.hid hE
 have IH := Lib.hid ih
 clear h hm hE ih
 go_enter Tryz.func20, Tryz.ntmps20
 go_wp2_with fail
 have f0 : Fr [] w (w.alloc (.cells #[.int .i64 0, .int .i64 0, .string ⟨#[]⟩, .int .i64 0, .string ⟨#[]⟩, .slice none 0 0, .slice none 0 0, .slice none 0 0] 27)) := (Fr.refl [] w).alloc _
 have g0 := heap_new w (.cells #[.int .i64 0, .int .i64 0, .string ⟨#[]⟩, .int .i64 0, .string ⟨#[]⟩, .slice none 0 0, .slice none 0 0, .slice none 0 0] 27)
 generalize w.alloc (.cells #[.int .i64 0, .int .i64 0, .string ⟨#[]⟩, .int .i64 0, .string ⟨#[]⟩, .slice none 0 0, .slice none 0 0, .slice none 0 0] 27) = w1 at *
 generalize hB : w.heap.size = B at *
 have hB1 := lt_of_heap g0
 have nP : ¬ P = B := by omega
 have nB : ¬ B = P := by omega
 have ng : ¬ g = B := by omega
 refine (IH.out.item P g c st w1 (H.out.fr f0) (by have := HN.out; omega)).mono ?_
 rintro e x1 ⟨k1, a1, nm1, n1, s1, ls1, args1, arms1, A51, n51, c51, A61, n61, c61, A71, n71, c71, st1, rfl, hx1, hr1, hst1, f1⟩
 have g0 := f1.keep g0 (by simpa using nB)
 have hs1 := f1.size
 have F1 : Fr [P] w x1 := (f0.mono (fun x hx => by cases hx)).trans f1
 go_wp2_with fail
 have q1 := heap_new x1 (.cells #[.int .i64 k1, .int .i64 a1, .string ⟨nm1.toArray⟩, .int .i64 n1, .string ⟨s1.toArray⟩, .slice A51 n51 c51, .slice A61 n61 c61, .slice A71 n71 c71] 27)
 have fb1 : Fr [] x1 (x1.alloc (.cells #[.int .i64 k1, .int .i64 a1, .string ⟨nm1.toArray⟩, .int .i64 n1, .string ⟨s1.toArray⟩, .slice A51 n51 c51, .slice A61 n61 c61, .slice A71 n71 c71] 27)) := (Fr.refl [] x1).alloc _
 generalize hY1 : x1.alloc (.cells #[.int .i64 k1, .int .i64 a1, .string ⟨nm1.toArray⟩, .int .i64 n1, .string ⟨s1.toArray⟩, .slice A51 n51 c51, .slice A61 n61 c61, .slice A71 n71 c71] 27) = x2 at *
 have hT1 := lt_of_heap q1
 generalize hTT1 : x1.heap.size = T3 at *
 have g0 := fb1.keep g0 (fun x => by cases x)
 have h2 := hst1.fr fb1
 have F2 := F1.trans0 fb1
 have hx1 := hx1.keep (ok' := fun b => B < b ∧ ¬ b = T3) (Sh.of_fr fb1 (fun b hb hlt => ⟨⟨by omega, by omega⟩, fun x => by cases x⟩))
 obtain ⟨t, ht⟩ := tok_at hst1.inb
 refine (now_any P g c ts st1 t ht x2 h2 HE.out).mono ?_
 rintro e x3 ⟨rfl, f3⟩
 go_wp2_with fail
 have q4 := heap_new x3 (.cells #[.int .i64 t.k, .int .i64 t.at', .string ⟨t.text.toArray⟩, .int .i64 t.n] 46)
 have fb4 : Fr [] x3 (x3.alloc (.cells #[.int .i64 t.k, .int .i64 t.at', .string ⟨t.text.toArray⟩, .int .i64 t.n] 46)) := (Fr.refl [] x3).alloc _
 generalize hY4 : x3.alloc (.cells #[.int .i64 t.k, .int .i64 t.at', .string ⟨t.text.toArray⟩, .int .i64 t.n] 46) = x4 at *
 have hT4 := lt_of_heap q4
 generalize hTT4 : x3.heap.size = T4 at *
 have f4 := f3.trans fb4
 have g0 := f4.keep g0 (fun x => by cases x)
 have q1 := f4.keep q1 (fun x => by cases x)
 have h4 := h2.fr f4
 have F4 := F2.trans0 f4
 have hs3 := f3.size
 have hx1 := hx1.keep (ok' := fun b => B < b ∧ ¬ b = T3 ∧ ¬ b = T4) (Sh.of_fr f4 (fun b hb hlt => ⟨⟨hb.1, hb.2, by omega⟩, fun x => by cases x⟩))
 cases hb : isB t st1.ok [[59]] with
 | false =>
  refine (may_no [59] P g c ts st1 t ht hb x4 h4 HE.out).mono ?_
  rintro e x5 ⟨rfl, f5⟩
  have g0 := f5.keep g0 (fun x => by cases x)
  obtain ⟨⟨l0, l1, l2, l3, l4, l5, l6, l7⟩, _⟩ := cells8 (f5.keep q1 (fun x => by cases x))
  have h5 := h4.fr f5
  have hx1 := hx1.keep (ok' := fun b => B < b) (Sh.of_fr f5 (fun b hb hlt => ⟨hb.1, fun x => by cases x⟩))
  have HG := Lib.hid (st8_heap g0 (.int .i64 k1) (.int .i64 a1) (.string ⟨nm1.toArray⟩) (.int .i64 n1) (.string ⟨s1.toArray⟩) (.slice A51 n51 c51) (.slice A61 n61 c61) (.slice A71 n71 c71))
  have HF := Lib.hid ((F4.trans0 f5).step (st8_fr x5 B (.int .i64 k1) (.int .i64 a1) (.string ⟨nm1.toArray⟩) (.int .i64 n1) (.string ⟨s1.toArray⟩) (.slice A51 n51 c51) (.slice A61 n61 c61) (.slice A71 n71 c71)) (fun x hx => .inr (by simp at hx; omega)))
  have HP := Lib.hid ((h5).frL (st8_fr x5 B (.int .i64 k1) (.int .i64 a1) (.string ⟨nm1.toArray⟩) (.int .i64 n1) (.string ⟨s1.toArray⟩) (.slice A51 n51 c51) (.slice A61 n61 c61) (.slice A71 n71 c71)) (by simpa using nP) (by simpa using ng))
  have HX : Hid (ExprAt (st8 x5 B (.int .i64 k1) (.int .i64 a1) (.string ⟨nm1.toArray⟩) (.int .i64 n1) (.string ⟨s1.toArray⟩) (.slice A51 n51 c51) (.slice A61 n61 c61) (.slice A71 n71 c71)) (fun b => B ≤ b) (.mk k1 a1 nm1 n1 s1 ls1 args1 arms1) [.int .i64 k1, .int .i64 a1, .string ⟨nm1.toArray⟩, .int .i64 n1, .string ⟨s1.toArray⟩, .slice A51 n51 c51, .slice A61 n61 c61, .slice A71 n71 c71]) := Lib.hid ((hx1).keep (Sh.of_fr (st8_fr x5 B (.int .i64 k1) (.int .i64 a1) (.string ⟨nm1.toArray⟩) (.int .i64 n1) (.string ⟨s1.toArray⟩) (.slice A51 n51 c51) (.slice A61 n61 c61) (.slice A71 n71 c71)) (fun b hb hlt => ⟨by omega, by simp; omega⟩)))
  unfold st8 at HG HF HP HX
  obtain ⟨⟨u0, u1, u2, u3, u4, u5, u6, u7⟩, z0, z1, z2, z3, z4, z5, z6, z7⟩ := cells8 g0
  go_wp2_with fail
  generalize (((((((x5.setCell ⟨B, 0, none⟩ (.int .i64 k1)).setCell ⟨B, 1, none⟩ (.int .i64 a1)).setCell ⟨B, 2, none⟩ (.string ⟨nm1.toArray⟩)).setCell ⟨B, 3, none⟩ (.int .i64 n1)).setCell ⟨B, 4, none⟩ (.string ⟨s1.toArray⟩)).setCell ⟨B, 5, none⟩ (.slice A51 n51 c51)).setCell ⟨B, 6, none⟩ (.slice A61 n61 c61)).setCell ⟨B, 7, none⟩ (.slice A71 n71 c71) = Z at HG HF HP HX ⊢
  obtain ⟨⟨d0, d1, d2, d3, d4, d5, d6, d7⟩, _⟩ := cells8 HG.out
  refine bodyPost_ret (v := .agg #[.int .i64 k1, .int .i64 a1, .string ⟨nm1.toArray⟩, .int .i64 n1, .string ⟨s1.toArray⟩, .slice A51 n51 c51, .slice A61 n61 c61, .slice A71 n71 c71]) ?_ rfl ?_
  ·simp [results, Tryz.f20, go_sem, d0, d1, d2, d3, d4, d5, d6, d7]
  ·exact ⟨_, _, _, _, _, _, _, _, _, _, _, _, _, _, _, _, _, _, rfl, by rw [hB]; exact HX.out, .callE hr1 (.look ht (.may_no ht hb .retE)), HP.out, HF.out⟩
 | true =>
  refine (may_yes [59] P g c ts st1 t ht hb x4 h4 HE.out).mono ?_
  rintro e x5 ⟨rfl, h5, f5⟩
  have g0 := f5.keep g0 (by simpa using nB)
  have q1 := f5.keep q1 (by simp; omega)
  have q4 := f5.keep q4 (by simp; omega)
  have hs5 := f5.size
  have F5 := F4.trans f5
  have hx1 := hx1.keep (ok' := fun b => B < b ∧ ¬ b = T3 ∧ ¬ b = T4 ∧ ¬ b = P ∧ b < x5.heap.size) (Sh.of_fr f5 (fun b hb hlt => ⟨⟨hb.1, hb.2.1, hb.2.2, by omega, by omega⟩, by simp; omega⟩))
  have hle := hr1.le
  obtain ⟨⟨l0, l1, l2, l3, l4, l5, l6, l7⟩, _⟩ := cells8 q1
  obtain ⟨m0, m1, m2, m3, _⟩ := cells4 q4
  have cS := fun W hW => Lib.hid (IH.out.seq P g c ⟨st1.i + 1, st1.ok⟩ W hW (by have := HN.out; have := h5.inb; simp only at this ⊢; omega))
  go_wp2_with fail
  have n34 : ¬ T3 = T4 := by omega
  have n3B : ¬ T3 = B := by omega
  have nB3 : ¬ B = T3 := by omega
  have n4B : ¬ T4 = B := by omega
  have nB4 : ¬ B = T4 := by omega
  clear fb1 fb4 f1 f3 f4 h2 h4 F1 F2 F4 hst1 IH HN H
  go_region_held3 (fun w' => w'.cell? ⟨T4, 1, none⟩ = some (.int .i64 t.at') ∧ (w'.cell? ⟨T3, 0, none⟩ = some (.int .i64 k1) ∧ w'.cell? ⟨T3, 1, none⟩ = some (.int .i64 a1) ∧ w'.cell? ⟨T3, 2, none⟩ = some (.string ⟨nm1.toArray⟩) ∧ w'.cell? ⟨T3, 3, none⟩ = some (.int .i64 n1) ∧ w'.cell? ⟨T3, 4, none⟩ = some (.string ⟨s1.toArray⟩) ∧ w'.cell? ⟨T3, 5, none⟩ = some (.slice A51 n51 c51) ∧ w'.cell? ⟨T3, 6, none⟩ = some (.slice A61 n61 c61) ∧ w'.cell? ⟨T3, 7, none⟩ = some (.slice A71 n71 c71))) (first | go_keep | exact ⟨M4.2.1, M3.1⟩) ((refine (cS _ (h5.fr (Fr.refl [] x5).drew)).out.mono ?_; rintro e x6 ⟨k2, a2, nm2, n2, s2, ls2, args2, arms2, A52, n52, c52, A62, n62, c62, A72, n72, c72, st2, rfl, hx2, hr2, hst2, f6⟩; have Q1 := f6.keep (w := x5.drew) q1 (by simp; omega); have Q4 := f6.keep (w := x5.drew) q4 (by simp; omega); have hT36 := lt_of_heap Q1; have hT46 := lt_of_heap Q4; have M3 := cells8 Q1; have M4 := cells4 Q4; have G6 := f6.keep (w := x5.drew) g0 (by simpa using nB); have hB6 := lt_of_heap G6; obtain ⟨⟨u0, u1, u2, u3, u4, u5, u6, u7⟩, z0, z1, z2, z3, z4, z5, z6, z7⟩ := cells8 G6))
  clear M3 M4 Q1 Q4 u0 u1 u2 u3 u4 u5 u6 u7 z0 z1 z2 z3 z4 z5 z6 z7 l0 l1 l2 l3 l4 l5 l6 l7 m0 m1 m2 m3
  have f6 : Fr [P] x5 x6 := ((Fr.refl [P] x5).drew).trans f6
  have hx1 := hx1.keep (ok' := fun b => B < b) (Sh.of_fr f6 (fun b hb hlt => ⟨hb.1, by simp; omega⟩))
  have hx2 := hx2.keep (ok' := fun b => B < b) (Sh.of_fr (Fr.refl [] x6) (fun b hb hlt => ⟨by have : x5.heap.size ≤ b := hb; omega, fun x => by cases x⟩))
  have HG := Lib.hid (st8_heap G6 (.int .i64 20) (.int .i64 t.at') (.string ⟨#[]⟩) (.int .i64 0) (.string ⟨#[]⟩) (.slice none 0 0) (.slice (some ⟨x6.heap.size, 0, none⟩) 2 2) (.slice none 0 0))
  have HF := Lib.hid ((F5.trans f6).step (st8_fr x6 B (.int .i64 20) (.int .i64 t.at') (.string ⟨#[]⟩) (.int .i64 0) (.string ⟨#[]⟩) (.slice none 0 0) (.slice (some ⟨x6.heap.size, 0, none⟩) 2 2) (.slice none 0 0)) (fun x hx => .inr (by simp at hx; omega)))
  have HP := Lib.hid ((hst2).frL (st8_fr x6 B (.int .i64 20) (.int .i64 t.at') (.string ⟨#[]⟩) (.int .i64 0) (.string ⟨#[]⟩) (.slice none 0 0) (.slice (some ⟨x6.heap.size, 0, none⟩) 2 2) (.slice none 0 0)) (by simpa using nP) (by simpa using ng))
  have HS := Lib.hid (st8_size x6 B (.int .i64 20) (.int .i64 t.at') (.string ⟨#[]⟩) (.int .i64 0) (.string ⟨#[]⟩) (.slice none 0 0) (.slice (some ⟨x6.heap.size, 0, none⟩) 2 2) (.slice none 0 0))
  have HX1 : Hid (ExprAt (st8 x6 B (.int .i64 20) (.int .i64 t.at') (.string ⟨#[]⟩) (.int .i64 0) (.string ⟨#[]⟩) (.slice none 0 0) (.slice (some ⟨x6.heap.size, 0, none⟩) 2 2) (.slice none 0 0)) (fun b => B ≤ b) (.mk k1 a1 nm1 n1 s1 ls1 args1 arms1) [.int .i64 k1, .int .i64 a1, .string ⟨nm1.toArray⟩, .int .i64 n1, .string ⟨s1.toArray⟩, .slice A51 n51 c51, .slice A61 n61 c61, .slice A71 n71 c71]) := Lib.hid ((hx1).keep (Sh.of_fr (st8_fr x6 B (.int .i64 20) (.int .i64 t.at') (.string ⟨#[]⟩) (.int .i64 0) (.string ⟨#[]⟩) (.slice none 0 0) (.slice (some ⟨x6.heap.size, 0, none⟩) 2 2) (.slice none 0 0)) (fun b hb hlt => ⟨by omega, by simp; omega⟩)))
  have HX2 : Hid (ExprAt (st8 x6 B (.int .i64 20) (.int .i64 t.at') (.string ⟨#[]⟩) (.int .i64 0) (.string ⟨#[]⟩) (.slice none 0 0) (.slice (some ⟨x6.heap.size, 0, none⟩) 2 2) (.slice none 0 0)) (fun b => B ≤ b) (.mk k2 a2 nm2 n2 s2 ls2 args2 arms2) [.int .i64 k2, .int .i64 a2, .string ⟨nm2.toArray⟩, .int .i64 n2, .string ⟨s2.toArray⟩, .slice A52 n52 c52, .slice A62 n62 c62, .slice A72 n72 c72]) := Lib.hid ((hx2).keep (Sh.of_fr (st8_fr x6 B (.int .i64 20) (.int .i64 t.at') (.string ⟨#[]⟩) (.int .i64 0) (.string ⟨#[]⟩) (.slice none 0 0) (.slice (some ⟨x6.heap.size, 0, none⟩) 2 2) (.slice none 0 0)) (fun b hb hlt => ⟨by omega, by simp; omega⟩)))
  unfold st8 at HG HF HP HS HX1 HX2
  go_wp2_with fail
  generalize (((((((x6.setCell ⟨B, 0, none⟩ (.int .i64 20)).setCell ⟨B, 1, none⟩ (.int .i64 t.at')).setCell ⟨B, 2, none⟩ (.string ⟨#[]⟩)).setCell ⟨B, 3, none⟩ (.int .i64 0)).setCell ⟨B, 4, none⟩ (.string ⟨#[]⟩)).setCell ⟨B, 5, none⟩ (.slice none 0 0)).setCell ⟨B, 6, none⟩ (.slice (some ⟨x6.heap.size, 0, none⟩) 2 2)).setCell ⟨B, 7, none⟩ (.slice none 0 0) = Z at HG HF HP HS HX1 HX2 ⊢
  obtain ⟨⟨d0, d1, d2, d3, d4, d5, d6, d7⟩, _⟩ := cells8 (heap_old HG.out (.cells #[.int .i64 k1, .int .i64 a1, .string ⟨nm1.toArray⟩, .int .i64 n1, .string ⟨s1.toArray⟩, .slice A51 n51 c51, .slice A61 n61 c61, .slice A71 n71 c71, .int .i64 k2, .int .i64 a2, .string ⟨nm2.toArray⟩, .int .i64 n2, .string ⟨s2.toArray⟩, .slice A52 n52 c52, .slice A62 n62 c62, .slice A72 n72 c72] 27))
  have hBZ : B ≤ Z.heap.size := by have := lt_of_heap HG.out; omega
  have row := RowG.lit2 keepsE (T := 27) (size := 8) HX1.out HX2.out rfl rfl (ok := fun b => B ≤ b) hBZ
  rw [HS.out] at row
  have hxx := ExprAt.of_rows (k := 20) (a := t.at') (nm := []) (n := 0) (s := []) (c5 := fun _ => []) (c7 := fun _ => []) RowG.nil_ row RowG.nil_
  refine bodyPost_ret (v := .agg #[.int .i64 20, .int .i64 t.at', .string ⟨#[]⟩, .int .i64 0, .string ⟨#[]⟩, .slice none 0 0, .slice (some ⟨x6.heap.size, 0, none⟩) 2 2, .slice none 0 0]) ?_ rfl ?_
  ·simp [results, Tryz.f20, go_sem, d0, d1, d2, d3, d4, d5, d6, d7]
  ·exact ⟨_, _, _, _, _, _, _, _, _, _, _, _, _, _, _, _, _, _, rfl, by rw [hB]; exact hxx, .callE hr1 (.look ht (.may_yes ht hb (.callE hr2 .retE))), HP.out.fr ((Fr.refl [] Z).alloc _), HF.out.alloc _⟩
end Go.Proofs.YtpjkfeehgookkaaGreatDoor
namespace Go.Proofs.YtpjkfeehgookkaaGreatDoor
open Go.RowKit
attribute [local go_sem ↓] Go.wp_at_zero Go.wp_at_succ
set_option maxHeartbeats 2000000 in
set_option maxRecDepth 100000 in
theorem or_step (ts : List Tok) (hE : EndOk ts) (N : Nat) (ih : AllE ts N) : GE ts (N + 1) 11 .or 57 := by
 intro P g c st w h hm
 have H := Lib.hid h
 have hP := lt_of_heap h.blk
 have hgl := h.lt
 have hin := h.inb
 have HN := Lib.hid hm
 have HE := Lib.hid hE
 have IH := Lib.hid ih
 clear h hm hE ih
 go_enter Tryz.func57, Tryz.ntmps57
 go_wp2_with fail
 have f0 : Fr [] w (w.alloc (.cells #[.int .i64 0, .int .i64 0, .string ⟨#[]⟩, .int .i64 0, .string ⟨#[]⟩, .slice none 0 0, .slice none 0 0, .slice none 0 0] 27)) := (Fr.refl [] w).alloc _
 have g0 := heap_new w (.cells #[.int .i64 0, .int .i64 0, .string ⟨#[]⟩, .int .i64 0, .string ⟨#[]⟩, .slice none 0 0, .slice none 0 0, .slice none 0 0] 27)
 generalize w.alloc (.cells #[.int .i64 0, .int .i64 0, .string ⟨#[]⟩, .int .i64 0, .string ⟨#[]⟩, .slice none 0 0, .slice none 0 0, .slice none 0 0] 27) = w1 at *
 generalize hB : w.heap.size = B at *
 have hB1 := lt_of_heap g0
 have nP : ¬ P = B := by omega
 have nB : ¬ B = P := by omega
 have ng : ¬ g = B := by omega
 refine (IH.out.and P g c st w1 (H.out.fr f0) (by have := HN.out; omega)).mono ?_
 rintro e x1 ⟨k1, a1, nm1, n1, s1, ls1, args1, arms1, A51, n51, c51, A61, n61, c61, A71, n71, c71, st1, rfl, hx1, hr1, hst1, f1⟩
 have g0 := f1.keep g0 (by simpa using nB)
 have hs1 := f1.size
 have F1 : Fr [P] w x1 := (f0.mono (fun x hx => by cases hx)).trans f1
 go_wp2_with fail
 have q1 := heap_new x1 (.cells #[.int .i64 k1, .int .i64 a1, .string ⟨nm1.toArray⟩, .int .i64 n1, .string ⟨s1.toArray⟩, .slice A51 n51 c51, .slice A61 n61 c61, .slice A71 n71 c71] 27)
 have fb1 : Fr [] x1 (x1.alloc (.cells #[.int .i64 k1, .int .i64 a1, .string ⟨nm1.toArray⟩, .int .i64 n1, .string ⟨s1.toArray⟩, .slice A51 n51 c51, .slice A61 n61 c61, .slice A71 n71 c71] 27)) := (Fr.refl [] x1).alloc _
 generalize hY1 : x1.alloc (.cells #[.int .i64 k1, .int .i64 a1, .string ⟨nm1.toArray⟩, .int .i64 n1, .string ⟨s1.toArray⟩, .slice A51 n51 c51, .slice A61 n61 c61, .slice A71 n71 c71] 27) = x2 at *
 have hT1 := lt_of_heap q1
 generalize hTT1 : x1.heap.size = T3 at *
 have g0 := fb1.keep g0 (fun x => by cases x)
 have h2 := hst1.fr fb1
 have F2 := F1.trans0 fb1
 have hx1 := hx1.keep (ok' := fun b => B < b ∧ ¬ b = T3) (Sh.of_fr fb1 (fun b hb hlt => ⟨⟨by omega, by omega⟩, fun x => by cases x⟩))
 obtain ⟨t, ht⟩ := tok_at hst1.inb
 refine (now_any P g c ts st1 t ht x2 h2 HE.out).mono ?_
 rintro e x3 ⟨rfl, f3⟩
 go_wp2_with fail
 have q4 := heap_new x3 (.cells #[.int .i64 t.k, .int .i64 t.at', .string ⟨t.text.toArray⟩, .int .i64 t.n] 46)
 have fb4 : Fr [] x3 (x3.alloc (.cells #[.int .i64 t.k, .int .i64 t.at', .string ⟨t.text.toArray⟩, .int .i64 t.n] 46)) := (Fr.refl [] x3).alloc _
 generalize hY4 : x3.alloc (.cells #[.int .i64 t.k, .int .i64 t.at', .string ⟨t.text.toArray⟩, .int .i64 t.n] 46) = x4 at *
 have hT4 := lt_of_heap q4
 generalize hTT4 : x3.heap.size = T4 at *
 have f4 := f3.trans fb4
 have g0 := f4.keep g0 (fun x => by cases x)
 have q1 := f4.keep q1 (fun x => by cases x)
 have h4 := h2.fr f4
 have F4 := F2.trans0 f4
 have hs3 := f3.size
 have hx1 := hx1.keep (ok' := fun b => B < b ∧ ¬ b = T3 ∧ ¬ b = T4) (Sh.of_fr f4 (fun b hb hlt => ⟨⟨hb.1, hb.2, by omega⟩, fun x => by cases x⟩))
 cases hb : isB t st1.ok [[124, 124]] with
 | false =>
  refine (may_no [124, 124] P g c ts st1 t ht hb x4 h4 HE.out).mono ?_
  rintro e x5 ⟨rfl, f5⟩
  have g0 := f5.keep g0 (fun x => by cases x)
  obtain ⟨⟨l0, l1, l2, l3, l4, l5, l6, l7⟩, _⟩ := cells8 (f5.keep q1 (fun x => by cases x))
  have h5 := h4.fr f5
  have hx1 := hx1.keep (ok' := fun b => B < b) (Sh.of_fr f5 (fun b hb hlt => ⟨hb.1, fun x => by cases x⟩))
  have HG := Lib.hid (st8_heap g0 (.int .i64 k1) (.int .i64 a1) (.string ⟨nm1.toArray⟩) (.int .i64 n1) (.string ⟨s1.toArray⟩) (.slice A51 n51 c51) (.slice A61 n61 c61) (.slice A71 n71 c71))
  have HF := Lib.hid ((F4.trans0 f5).step (st8_fr x5 B (.int .i64 k1) (.int .i64 a1) (.string ⟨nm1.toArray⟩) (.int .i64 n1) (.string ⟨s1.toArray⟩) (.slice A51 n51 c51) (.slice A61 n61 c61) (.slice A71 n71 c71)) (fun x hx => .inr (by simp at hx; omega)))
  have HP := Lib.hid ((h5).frL (st8_fr x5 B (.int .i64 k1) (.int .i64 a1) (.string ⟨nm1.toArray⟩) (.int .i64 n1) (.string ⟨s1.toArray⟩) (.slice A51 n51 c51) (.slice A61 n61 c61) (.slice A71 n71 c71)) (by simpa using nP) (by simpa using ng))
  have HX : Hid (ExprAt (st8 x5 B (.int .i64 k1) (.int .i64 a1) (.string ⟨nm1.toArray⟩) (.int .i64 n1) (.string ⟨s1.toArray⟩) (.slice A51 n51 c51) (.slice A61 n61 c61) (.slice A71 n71 c71)) (fun b => B ≤ b) (.mk k1 a1 nm1 n1 s1 ls1 args1 arms1) [.int .i64 k1, .int .i64 a1, .string ⟨nm1.toArray⟩, .int .i64 n1, .string ⟨s1.toArray⟩, .slice A51 n51 c51, .slice A61 n61 c61, .slice A71 n71 c71]) := Lib.hid ((hx1).keep (Sh.of_fr (st8_fr x5 B (.int .i64 k1) (.int .i64 a1) (.string ⟨nm1.toArray⟩) (.int .i64 n1) (.string ⟨s1.toArray⟩) (.slice A51 n51 c51) (.slice A61 n61 c61) (.slice A71 n71 c71)) (fun b hb hlt => ⟨by omega, by simp; omega⟩)))
  unfold st8 at HG HF HP HX
  obtain ⟨⟨u0, u1, u2, u3, u4, u5, u6, u7⟩, z0, z1, z2, z3, z4, z5, z6, z7⟩ := cells8 g0
  go_wp2_with fail
  generalize (((((((x5.setCell ⟨B, 0, none⟩ (.int .i64 k1)).setCell ⟨B, 1, none⟩ (.int .i64 a1)).setCell ⟨B, 2, none⟩ (.string ⟨nm1.toArray⟩)).setCell ⟨B, 3, none⟩ (.int .i64 n1)).setCell ⟨B, 4, none⟩ (.string ⟨s1.toArray⟩)).setCell ⟨B, 5, none⟩ (.slice A51 n51 c51)).setCell ⟨B, 6, none⟩ (.slice A61 n61 c61)).setCell ⟨B, 7, none⟩ (.slice A71 n71 c71) = Z at HG HF HP HX ⊢
  obtain ⟨⟨d0, d1, d2, d3, d4, d5, d6, d7⟩, _⟩ := cells8 HG.out
  refine bodyPost_ret (v := .agg #[.int .i64 k1, .int .i64 a1, .string ⟨nm1.toArray⟩, .int .i64 n1, .string ⟨s1.toArray⟩, .slice A51 n51 c51, .slice A61 n61 c61, .slice A71 n71 c71]) ?_ rfl ?_
  ·simp [results, Tryz.f57, go_sem, d0, d1, d2, d3, d4, d5, d6, d7]
  ·exact ⟨_, _, _, _, _, _, _, _, _, _, _, _, _, _, _, _, _, _, rfl, by rw [hB]; exact HX.out, .callE hr1 (.look ht (.may_no ht hb .retE)), HP.out, HF.out⟩
 | true =>
  refine (may_yes [124, 124] P g c ts st1 t ht hb x4 h4 HE.out).mono ?_
  rintro e x5 ⟨rfl, h5, f5⟩
  have g0 := f5.keep g0 (by simpa using nB)
  have q1 := f5.keep q1 (by simp; omega)
  have q4 := f5.keep q4 (by simp; omega)
  have hs5 := f5.size
  have F5 := F4.trans f5
  have hx1 := hx1.keep (ok' := fun b => B < b ∧ ¬ b = T3 ∧ ¬ b = T4 ∧ ¬ b = P ∧ b < x5.heap.size) (Sh.of_fr f5 (fun b hb hlt => ⟨⟨hb.1, hb.2.1, hb.2.2, by omega, by omega⟩, by simp; omega⟩))
  have hle := hr1.le
  obtain ⟨⟨l0, l1, l2, l3, l4, l5, l6, l7⟩, _⟩ := cells8 q1
  obtain ⟨m0, m1, m2, m3, _⟩ := cells4 q4
  have cS := fun W hW => Lib.hid (IH.out.or P g c ⟨st1.i + 1, st1.ok⟩ W hW (by have := HN.out; have := h5.inb; simp only at this ⊢; omega))
  go_wp2_with fail
  have n34 : ¬ T3 = T4 := by omega
  have n3B : ¬ T3 = B := by omega
  have nB3 : ¬ B = T3 := by omega
  have n4B : ¬ T4 = B := by omega
  have nB4 : ¬ B = T4 := by omega
  clear fb1 fb4 f1 f3 f4 h2 h4 F1 F2 F4 hst1 IH HN H
  go_region_held3 (fun w' => w'.cell? ⟨T4, 1, none⟩ = some (.int .i64 t.at') ∧ (w'.cell? ⟨T3, 0, none⟩ = some (.int .i64 k1) ∧ w'.cell? ⟨T3, 1, none⟩ = some (.int .i64 a1) ∧ w'.cell? ⟨T3, 2, none⟩ = some (.string ⟨nm1.toArray⟩) ∧ w'.cell? ⟨T3, 3, none⟩ = some (.int .i64 n1) ∧ w'.cell? ⟨T3, 4, none⟩ = some (.string ⟨s1.toArray⟩) ∧ w'.cell? ⟨T3, 5, none⟩ = some (.slice A51 n51 c51) ∧ w'.cell? ⟨T3, 6, none⟩ = some (.slice A61 n61 c61) ∧ w'.cell? ⟨T3, 7, none⟩ = some (.slice A71 n71 c71))) (first | go_keep | exact ⟨M4.2.1, M3.1⟩) ((refine (cS _ (h5.fr (Fr.refl [] x5).drew)).out.mono ?_; rintro e x6 ⟨k2, a2, nm2, n2, s2, ls2, args2, arms2, A52, n52, c52, A62, n62, c62, A72, n72, c72, st2, rfl, hx2, hr2, hst2, f6⟩; have Q1 := f6.keep (w := x5.drew) q1 (by simp; omega); have Q4 := f6.keep (w := x5.drew) q4 (by simp; omega); have hT36 := lt_of_heap Q1; have hT46 := lt_of_heap Q4; have M3 := cells8 Q1; have M4 := cells4 Q4; have G6 := f6.keep (w := x5.drew) g0 (by simpa using nB); have hB6 := lt_of_heap G6; obtain ⟨⟨u0, u1, u2, u3, u4, u5, u6, u7⟩, z0, z1, z2, z3, z4, z5, z6, z7⟩ := cells8 G6))
  clear M3 M4 Q1 Q4 u0 u1 u2 u3 u4 u5 u6 u7 z0 z1 z2 z3 z4 z5 z6 z7 l0 l1 l2 l3 l4 l5 l6 l7 m0 m1 m2 m3
  have f6 : Fr [P] x5 x6 := ((Fr.refl [P] x5).drew).trans f6
  have hx1 := hx1.keep (ok' := fun b => B < b) (Sh.of_fr f6 (fun b hb hlt => ⟨hb.1, by simp; omega⟩))
  have hx2 := hx2.keep (ok' := fun b => B < b) (Sh.of_fr (Fr.refl [] x6) (fun b hb hlt => ⟨by have : x5.heap.size ≤ b := hb; omega, fun x => by cases x⟩))
  have HG := Lib.hid (st8_heap G6 (.int .i64 22) (.int .i64 t.at') (.string ⟨#[]⟩) (.int .i64 0) (.string ⟨#[]⟩) (.slice none 0 0) (.slice (some ⟨x6.heap.size, 0, none⟩) 2 2) (.slice none 0 0))
  have HF := Lib.hid ((F5.trans f6).step (st8_fr x6 B (.int .i64 22) (.int .i64 t.at') (.string ⟨#[]⟩) (.int .i64 0) (.string ⟨#[]⟩) (.slice none 0 0) (.slice (some ⟨x6.heap.size, 0, none⟩) 2 2) (.slice none 0 0)) (fun x hx => .inr (by simp at hx; omega)))
  have HP := Lib.hid ((hst2).frL (st8_fr x6 B (.int .i64 22) (.int .i64 t.at') (.string ⟨#[]⟩) (.int .i64 0) (.string ⟨#[]⟩) (.slice none 0 0) (.slice (some ⟨x6.heap.size, 0, none⟩) 2 2) (.slice none 0 0)) (by simpa using nP) (by simpa using ng))
  have HS := Lib.hid (st8_size x6 B (.int .i64 22) (.int .i64 t.at') (.string ⟨#[]⟩) (.int .i64 0) (.string ⟨#[]⟩) (.slice none 0 0) (.slice (some ⟨x6.heap.size, 0, none⟩) 2 2) (.slice none 0 0))
  have HX1 : Hid (ExprAt (st8 x6 B (.int .i64 22) (.int .i64 t.at') (.string ⟨#[]⟩) (.int .i64 0) (.string ⟨#[]⟩) (.slice none 0 0) (.slice (some ⟨x6.heap.size, 0, none⟩) 2 2) (.slice none 0 0)) (fun b => B ≤ b) (.mk k1 a1 nm1 n1 s1 ls1 args1 arms1) [.int .i64 k1, .int .i64 a1, .string ⟨nm1.toArray⟩, .int .i64 n1, .string ⟨s1.toArray⟩, .slice A51 n51 c51, .slice A61 n61 c61, .slice A71 n71 c71]) := Lib.hid ((hx1).keep (Sh.of_fr (st8_fr x6 B (.int .i64 22) (.int .i64 t.at') (.string ⟨#[]⟩) (.int .i64 0) (.string ⟨#[]⟩) (.slice none 0 0) (.slice (some ⟨x6.heap.size, 0, none⟩) 2 2) (.slice none 0 0)) (fun b hb hlt => ⟨by omega, by simp; omega⟩)))
  have HX2 : Hid (ExprAt (st8 x6 B (.int .i64 22) (.int .i64 t.at') (.string ⟨#[]⟩) (.int .i64 0) (.string ⟨#[]⟩) (.slice none 0 0) (.slice (some ⟨x6.heap.size, 0, none⟩) 2 2) (.slice none 0 0)) (fun b => B ≤ b) (.mk k2 a2 nm2 n2 s2 ls2 args2 arms2) [.int .i64 k2, .int .i64 a2, .string ⟨nm2.toArray⟩, .int .i64 n2, .string ⟨s2.toArray⟩, .slice A52 n52 c52, .slice A62 n62 c62, .slice A72 n72 c72]) := Lib.hid ((hx2).keep (Sh.of_fr (st8_fr x6 B (.int .i64 22) (.int .i64 t.at') (.string ⟨#[]⟩) (.int .i64 0) (.string ⟨#[]⟩) (.slice none 0 0) (.slice (some ⟨x6.heap.size, 0, none⟩) 2 2) (.slice none 0 0)) (fun b hb hlt => ⟨by omega, by simp; omega⟩)))
  unfold st8 at HG HF HP HS HX1 HX2
  go_wp2_with fail
  generalize (((((((x6.setCell ⟨B, 0, none⟩ (.int .i64 22)).setCell ⟨B, 1, none⟩ (.int .i64 t.at')).setCell ⟨B, 2, none⟩ (.string ⟨#[]⟩)).setCell ⟨B, 3, none⟩ (.int .i64 0)).setCell ⟨B, 4, none⟩ (.string ⟨#[]⟩)).setCell ⟨B, 5, none⟩ (.slice none 0 0)).setCell ⟨B, 6, none⟩ (.slice (some ⟨x6.heap.size, 0, none⟩) 2 2)).setCell ⟨B, 7, none⟩ (.slice none 0 0) = Z at HG HF HP HS HX1 HX2 ⊢
  obtain ⟨⟨d0, d1, d2, d3, d4, d5, d6, d7⟩, _⟩ := cells8 (heap_old HG.out (.cells #[.int .i64 k1, .int .i64 a1, .string ⟨nm1.toArray⟩, .int .i64 n1, .string ⟨s1.toArray⟩, .slice A51 n51 c51, .slice A61 n61 c61, .slice A71 n71 c71, .int .i64 k2, .int .i64 a2, .string ⟨nm2.toArray⟩, .int .i64 n2, .string ⟨s2.toArray⟩, .slice A52 n52 c52, .slice A62 n62 c62, .slice A72 n72 c72] 27))
  have hBZ : B ≤ Z.heap.size := by have := lt_of_heap HG.out; omega
  have row := RowG.lit2 keepsE (T := 27) (size := 8) HX1.out HX2.out rfl rfl (ok := fun b => B ≤ b) hBZ
  rw [HS.out] at row
  have hxx := ExprAt.of_rows (k := 22) (a := t.at') (nm := []) (n := 0) (s := []) (c5 := fun _ => []) (c7 := fun _ => []) RowG.nil_ row RowG.nil_
  refine bodyPost_ret (v := .agg #[.int .i64 22, .int .i64 t.at', .string ⟨#[]⟩, .int .i64 0, .string ⟨#[]⟩, .slice none 0 0, .slice (some ⟨x6.heap.size, 0, none⟩) 2 2, .slice none 0 0]) ?_ rfl ?_
  ·simp [results, Tryz.f57, go_sem, d0, d1, d2, d3, d4, d5, d6, d7]
  ·exact ⟨_, _, _, _, _, _, _, _, _, _, _, _, _, _, _, _, _, _, rfl, by rw [hB]; exact hxx, .callE hr1 (.look ht (.may_yes ht hb (.callE hr2 .retE))), HP.out.fr ((Fr.refl [] Z).alloc _), HF.out.alloc _⟩
end Go.Proofs.YtpjkfeehgookkaaGreatDoor
