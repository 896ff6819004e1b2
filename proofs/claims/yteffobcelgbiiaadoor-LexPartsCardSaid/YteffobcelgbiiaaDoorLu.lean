/- Layer 5, walks: the program's token that a text begins with. -/
import Derived.Test.YteffobcelgbiiaaDoorLt
import Derived.Test.YteffobcelgbiiaaDoorL5
namespace Go.Proofs.YteffobcelgbiiaaDoor
open Go.RowKit

def tokV (k : Int) (a0 : Nat) (t : List UInt8) (n : Int) : Value := .agg #[.int .i64 k, .int .i64 a0, .string ⟨t.toArray⟩, .int .i64 n]
def oneOk (r : Except Int (Int × List UInt8 × Int × Nat)) (a0 b0 : Nat) (e : Ending) : Prop := match r with
  | .ok (k, t, n, m) => e = .returned (.tuple #[tokV k a0 t n, .int .i64 ((b0 + m : Nat) : Int), .int .i64 0])
  | .error er => ∃ (k : Int) (a : Nat) (t : List UInt8) (n v2 : Int), e = .returned (.tuple #[tokV k a t n, .int .i64 v2, .int .i64 er])
theorem oneOk_ok {k : Int} {t : List UInt8} {n : Int} {m a0 b0 : Nat} {e : Ending} (h : e = .returned (.tuple #[tokV k a0 t n, .int .i64 ((b0 + m : Nat) : Int), .int .i64 0])) : oneOk (.ok (k, t, n, m)) a0 b0 e := h
theorem oneOk_err {er : Int} {a0 b0 : Nat} {k : Int} {a : Nat} {t : List UInt8} {n v2 : Int} {e : Ending} (h : e = .returned (.tuple #[tokV k a t n, .int .i64 v2, .int .i64 er])) : oneOk (.error er) a0 b0 e := ⟨k, a, t, n, v2, h⟩
theorem list_head (s : ByteArray) (h : 0 < s.size) : s.data.toList = s[0] :: s.data.toList.drop 1 := by
  have := drop_cons s 0 h
  simpa using this

theorem cells4 {x : World} {B : Nat} {T : TypeId} {a b c d : Value} (h : x.heap[B]? = some (.cells #[a, b, c, d] T (0, 0))) :
    x.cell? ⟨B, 0, none⟩ = some a ∧ x.cell? ⟨B, 1, none⟩ = some b ∧ x.cell? ⟨B, 2, none⟩ = some c ∧ x.cell? ⟨B, 3, none⟩ = some d ∧ x.frozen? ⟨B, 0, none⟩ = false ∧ x.frozen? ⟨B, 1, none⟩ = false ∧ x.frozen? ⟨B, 2, none⟩ = false ∧ x.frozen? ⟨B, 3, none⟩ = false :=
  ⟨cell_of h 0, cell_of h 1, cell_of h 2, cell_of h 3, frozen_of h 0, frozen_of h 1, frozen_of h 2, frozen_of h 3⟩
theorem set4 {x : World} {B : Nat} {T : TypeId} {a b c d : Value} (h : x.heap[B]? = some (.cells #[a, b, c, d] T (0, 0))) (p q r t : Value) :
    ((((x.setCell ⟨B, 0, none⟩ p).setCell ⟨B, 1, none⟩ q).setCell ⟨B, 2, none⟩ r).setCell ⟨B, 3, none⟩ t).heap[B]? = some (.cells #[p, q, r, t] T (0, 0)) := by
  simp [World.setCell, Array.getElem?_modify, h]
theorem Fr.store4 {w x : World} {B : Nat} (h : Fr [] w x) (hB : w.heap.size = B) (p q r t : Value) : Fr [] w ((((x.setCell ⟨B, 0, none⟩ p).setCell ⟨B, 1, none⟩ q).setCell ⟨B, 2, none⟩ r).setCell ⟨B, 3, none⟩ t) := by
  refine Fr.of_below ((((h.below0.setCell (p := ⟨B, 0, none⟩) ?_ p).setCell (p := ⟨B, 1, none⟩) ?_ q).setCell (p := ⟨B, 2, none⟩) ?_ r).setCell (p := ⟨B, 3, none⟩) ?_ t)
  all_goals (show w.heap.size ≤ B; omega)
theorem Fr.store {w x : World} {p : Addr} (h : Fr [] w x) (hp : w.heap.size ≤ p.block) (v : Value) : Fr [] w (x.setCell p v) := Fr.of_below (h.below0.setCell hp v)

set_option maxHeartbeats 1000000 in
set_option maxRecDepth 100000 in
theorem one_small (s : ByteArray) (hs : s.size ≤ 1000000) (hp : 0 < s.size) (h1 : smallB s[0] = true) (w : World) (hE : EnvL w) :
    Calls Tryd.prog 15 #[.string s] w fun e w' => oneOk (tok s.data.toList) 0 0 e ∧ Fr [] w w' := by
  have ht : tok s.data.toList = .ok (if isWordB (runL s.data.toList) = true then 6 else 1, runL s.data.toList, 0, (runL s.data.toList).length) := by
    rw [list_head s hp, tok, if_pos h1]
  rw [ht]
  have hsm := smallI_byte s[0]
  rw [h1] at hsm
  have wv : wrap32 ((s[0].toNat : Nat) : Int) = ((s[0].toNat : Nat) : Int) := by have := s[0].toNat_lt; unfold wrap32; omega
  have hrl := runL_le s.data.toList
  rw [size_list] at hrl
  have cw := fun w hE => Lib.hid (IsWord_any ⟨(runL s.data.toList).toArray⟩ (by show (runL s.data.toList).length ≤ 1000000; omega) w hE)
  have cr := fun w => Lib.hid (run_any s (by omega) w)
  clear ht h1
  generalize runL s.data.toList = X at *
  cases hw : isWordB X with
  | true =>
    have hw2 : isWordB (ByteArray.mk X.toArray).data.toList = true := hw
    rw [if_pos rfl]
    go_enter Tryd.func15, Tryd.ntmps15
    go_wp2_with fail
    have f0 : Fr [] w (w.alloc (.cells #[.int .i64 0, .int .i64 0, .string ⟨#[]⟩, .int .i64 0] 31)) := (Fr.refl [] w).alloc _
    have h0 : (w.alloc (.cells #[.int .i64 0, .int .i64 0, .string ⟨#[]⟩, .int .i64 0] 31)).heap[w.heap.size]? = some (.cells #[.int .i64 0, .int .i64 0, .string ⟨#[]⟩, .int .i64 0] 31 (0, 0)) := Array.getElem?_push_size
    generalize (w.alloc (.cells #[.int .i64 0, .int .i64 0, .string ⟨#[]⟩, .int .i64 0] 31)) = w1 at *
    have hBw : w.heap.size ≤ w.heap.size := Nat.le_refl _
    generalize hB : w.heap.size = B at h0 hBw ⊢
    refine (small_any _ _).mono ?_; rintro e x1 ⟨rfl, rfl⟩; go_wp2_with fail
    refine (cr _).out.mono ?_; rintro e x1 ⟨rfl, f1⟩; go_wp2_with fail
    refine (cw _ ((hE.fr f0).fr f1)).out.mono ?_; rintro e x2 ⟨rfl, f2⟩; rw [hw2]
    have g := f2.keep (f1.keep h0 (fun h => by cases h)) (fun h => by cases h)
    obtain ⟨c0, c1, c2, c3, z0, z1, z2, z3⟩ := cells4 g
    have ff := (f0.trans f1).trans f2
    have gz := set4 g (.int .i64 6) (.int .i64 0) (.string ⟨X.toArray⟩) (.int .i64 0)
    have fz := ff.store4 hB (.int .i64 6) (.int .i64 0) (.string ⟨X.toArray⟩) (.int .i64 0)
    clear h0 g
    go_wp2_with fail
    generalize (((x2.setCell ⟨B, 0, none⟩ (.int .i64 6)).setCell ⟨B, 1, none⟩ (.int .i64 0)).setCell ⟨B, 2, none⟩ (.string ⟨X.toArray⟩)).setCell ⟨B, 3, none⟩ (.int .i64 0) = Z at gz fz ⊢
    obtain ⟨d0, d1, d2, d3, _⟩ := cells4 gz
    refine bodyPost_ret (v := .tuple #[tokV 6 0 X 0, .int .i64 ((0 + X.length : Nat) : Int), .int .i64 0]) ?_ rfl ?_
    · simp [results, Tryd.f15, go_sem, tokV, d0, d1, d2, d3]
    · exact ⟨rfl, fz⟩
  | false =>
    have hw2 : isWordB (ByteArray.mk X.toArray).data.toList = false := hw
    rw [if_neg Bool.false_ne_true]
    go_enter Tryd.func15, Tryd.ntmps15
    go_wp2_with fail
    have f0 : Fr [] w (w.alloc (.cells #[.int .i64 0, .int .i64 0, .string ⟨#[]⟩, .int .i64 0] 31)) := (Fr.refl [] w).alloc _
    have h0 : (w.alloc (.cells #[.int .i64 0, .int .i64 0, .string ⟨#[]⟩, .int .i64 0] 31)).heap[w.heap.size]? = some (.cells #[.int .i64 0, .int .i64 0, .string ⟨#[]⟩, .int .i64 0] 31 (0, 0)) := Array.getElem?_push_size
    generalize (w.alloc (.cells #[.int .i64 0, .int .i64 0, .string ⟨#[]⟩, .int .i64 0] 31)) = w1 at *
    have hBw : w.heap.size ≤ w.heap.size := Nat.le_refl _
    generalize hB : w.heap.size = B at h0 hBw ⊢
    refine (small_any _ _).mono ?_; rintro e x1 ⟨rfl, rfl⟩; go_wp2_with fail
    refine (cr _).out.mono ?_; rintro e x1 ⟨rfl, f1⟩; go_wp2_with fail
    refine (cw _ ((hE.fr f0).fr f1)).out.mono ?_; rintro e x2 ⟨rfl, f2⟩; rw [hw2]
    have g := f2.keep (f1.keep h0 (fun h => by cases h)) (fun h => by cases h)
    obtain ⟨c0, c1, c2, c3, z0, z1, z2, z3⟩ := cells4 g
    have ff := (f0.trans f1).trans f2
    have gz := set4 g (.int .i64 1) (.int .i64 0) (.string ⟨X.toArray⟩) (.int .i64 0)
    have fz := ff.store4 hB (.int .i64 1) (.int .i64 0) (.string ⟨X.toArray⟩) (.int .i64 0)
    clear h0 g
    go_wp2_with fail
    generalize (((x2.setCell ⟨B, 0, none⟩ (.int .i64 1)).setCell ⟨B, 1, none⟩ (.int .i64 0)).setCell ⟨B, 2, none⟩ (.string ⟨X.toArray⟩)).setCell ⟨B, 3, none⟩ (.int .i64 0) = Z at gz fz ⊢
    obtain ⟨d0, d1, d2, d3, _⟩ := cells4 gz
    refine bodyPost_ret (v := .tuple #[tokV 1 0 X 0, .int .i64 ((0 + X.length : Nat) : Int), .int .i64 0]) ?_ rfl ?_
    · simp [results, Tryd.f15, go_sem, tokV, d0, d1, d2, d3]
    · exact ⟨rfl, fz⟩

set_option maxHeartbeats 1000000 in
set_option maxRecDepth 100000 in
theorem one_great (s : ByteArray) (hs : s.size ≤ 1000000) (hp : 0 < s.size) (h1 : smallB s[0] = false) (h2 : greatB s[0] = true) (w : World) (hE : EnvL w) :
    Calls Tryd.prog 15 #[.string s] w fun e w' => oneOk (tok s.data.toList) 0 0 e ∧ Fr [] w w' := by
  have ht : tok s.data.toList = .ok (2, runL s.data.toList, 0, (runL s.data.toList).length) := by
    rw [list_head s hp, tok, if_neg (by simp [h1]), if_pos h2]
  rw [ht]
  have hsm := smallI_byte s[0]
  have hgr := greatI_byte s[0]
  rw [h1] at hsm
  rw [h2] at hgr
  have wv : wrap32 ((s[0].toNat : Nat) : Int) = ((s[0].toNat : Nat) : Int) := by have := s[0].toNat_lt; unfold wrap32; omega
  have hrl := runL_le s.data.toList
  rw [size_list] at hrl
  have cr := fun w => Lib.hid (run_any s (by omega) w)
  clear ht h1 h2
  generalize runL s.data.toList = X at *
  go_enter Tryd.func15, Tryd.ntmps15
  go_wp2_with fail
  have f0 : Fr [] w (w.alloc (.cells #[.int .i64 0, .int .i64 0, .string ⟨#[]⟩, .int .i64 0] 31)) := (Fr.refl [] w).alloc _
  have h0 : (w.alloc (.cells #[.int .i64 0, .int .i64 0, .string ⟨#[]⟩, .int .i64 0] 31)).heap[w.heap.size]? = some (.cells #[.int .i64 0, .int .i64 0, .string ⟨#[]⟩, .int .i64 0] 31 (0, 0)) := Array.getElem?_push_size
  generalize (w.alloc (.cells #[.int .i64 0, .int .i64 0, .string ⟨#[]⟩, .int .i64 0] 31)) = w1 at *
  have hBw : w.heap.size ≤ w.heap.size := Nat.le_refl _
  generalize hB : w.heap.size = B at h0 hBw ⊢
  refine (small_any _ _).mono ?_; rintro e x1 ⟨rfl, rfl⟩; go_wp2_with fail
  refine (great_any _ _).mono ?_; rintro e x1 ⟨rfl, rfl⟩; go_wp2_with fail
  refine (cr _).out.mono ?_; rintro e x1 ⟨rfl, f1⟩
  have g := f1.keep h0 (fun h => by cases h)
  obtain ⟨c0, c1, c2, c3, z0, z1, z2, z3⟩ := cells4 g
  have ff := f0.trans f1
  have gz := set4 g (.int .i64 2) (.int .i64 0) (.string ⟨X.toArray⟩) (.int .i64 0)
  have fz := ff.store4 hB (.int .i64 2) (.int .i64 0) (.string ⟨X.toArray⟩) (.int .i64 0)
  clear h0 g
  go_wp2_with fail
  generalize (((x1.setCell ⟨B, 0, none⟩ (.int .i64 2)).setCell ⟨B, 1, none⟩ (.int .i64 0)).setCell ⟨B, 2, none⟩ (.string ⟨X.toArray⟩)).setCell ⟨B, 3, none⟩ (.int .i64 0) = Z at gz fz ⊢
  obtain ⟨d0, d1, d2, d3, _⟩ := cells4 gz
  refine bodyPost_ret (v := .tuple #[tokV 2 0 X 0, .int .i64 ((0 + X.length : Nat) : Int), .int .i64 0]) ?_ rfl ?_
  · simp [results, Tryd.f15, go_sem, tokV, d0, d1, d2, d3]
  · exact ⟨rfl, fz⟩

set_option maxHeartbeats 1000000 in
set_option maxRecDepth 100000 in
theorem one_tag (s : ByteArray) (hs : s.size ≤ 1000000) (hp : 0 < s.size) (h1 : s[0] = 35) (hp2 : 1 < s.size) (h2 : greatB s[1] = true) (w : World) (hE : EnvL w) :
    Calls Tryd.prog 15 #[.string s] w fun e w' => oneOk (tok s.data.toList) 0 0 e ∧ Fr [] w w' := by
  have hr : s.data.toList.drop 1 = s[1] :: s.data.toList.drop 2 := drop_cons s 1 hp2
  have ht : tok s.data.toList = .ok (3, runL (s.data.toList.drop 1), 0, 1 + (runL (s.data.toList.drop 1)).length) := by
    rw [list_head s hp, tok, if_neg (by rw [h1]; decide), if_neg (by rw [h1]; decide), if_pos ⟨h1, by rw [hr]; simpa using h2⟩]
    rfl
  rw [ht]
  have hsm : smallI ((s[0].toNat : Nat) : Int) = false := by rw [smallI_byte, h1]; decide
  have hg0 : greatI ((s[0].toNat : Nat) : Int) = false := by rw [greatI_byte, h1]; decide
  have e35 : ((s[0].toNat : Nat) : Int) = 35 := by rw [h1]; rfl
  have b35 : (((s[0].toNat : Nat) : Int) == 35) = true := by rw [h1]; rfl
  have hgr := greatI_byte s[1]
  rw [h2] at hgr
  have l1 : 1 < (s.size : Int) := by omega
  have wv : wrap32 ((s[0].toNat : Nat) : Int) = ((s[0].toNat : Nat) : Int) := by have := s[0].toNat_lt; unfold wrap32; omega
  have wv1 : wrap32 ((s[1].toNat : Nat) : Int) = ((s[1].toNat : Nat) : Int) := by have := s[1].toNat_lt; unfold wrap32; omega
  have hrl := runL_le (s.data.toList.drop 1)
  rw [drop_len] at hrl
  have cr := fun w => run_any (s.extract 1 s.size) (by have : (s.extract 1 s.size).size = s.size - 1 := by simp
                                                       omega) w
  rw [Lib.extract_to_end s 1] at cr
  have CR := fun w => Lib.hid (cr w)
  clear ht h1 h2 hr cr
  generalize runL (s.data.toList.drop 1) = X at *
  go_enter Tryd.func15, Tryd.ntmps15
  go_wp2_with fail
  have f0 : Fr [] w (w.alloc (.cells #[.int .i64 0, .int .i64 0, .string ⟨#[]⟩, .int .i64 0] 31)) := (Fr.refl [] w).alloc _
  have h0 : (w.alloc (.cells #[.int .i64 0, .int .i64 0, .string ⟨#[]⟩, .int .i64 0] 31)).heap[w.heap.size]? = some (.cells #[.int .i64 0, .int .i64 0, .string ⟨#[]⟩, .int .i64 0] 31 (0, 0)) := Array.getElem?_push_size
  generalize (w.alloc (.cells #[.int .i64 0, .int .i64 0, .string ⟨#[]⟩, .int .i64 0] 31)) = w1 at *
  have hBw : w.heap.size ≤ w.heap.size := Nat.le_refl _
  generalize hB : w.heap.size = B at h0 hBw ⊢
  refine (small_any _ _).mono ?_; rintro e x1 ⟨rfl, rfl⟩; go_wp2_with fail
  refine (great_any _ _).mono ?_; rintro e x1 ⟨rfl, rfl⟩; go_wp2_with fail
  refine (great_any _ _).mono ?_; rintro e x1 ⟨rfl, rfl⟩; go_wp2_with fail
  refine (CR _).out.mono ?_; rintro e x1 ⟨rfl, f1⟩
  have g := f1.keep h0 (fun h => by cases h)
  obtain ⟨c0, c1, c2, c3, z0, z1, z2, z3⟩ := cells4 g
  have ff := f0.trans f1
  have gz := set4 g (.int .i64 3) (.int .i64 0) (.string ⟨X.toArray⟩) (.int .i64 0)
  have fz := ff.store4 hB (.int .i64 3) (.int .i64 0) (.string ⟨X.toArray⟩) (.int .i64 0)
  clear h0 g
  go_wp2_with fail
  generalize (((x1.setCell ⟨B, 0, none⟩ (.int .i64 3)).setCell ⟨B, 1, none⟩ (.int .i64 0)).setCell ⟨B, 2, none⟩ (.string ⟨X.toArray⟩)).setCell ⟨B, 3, none⟩ (.int .i64 0) = Z at gz fz ⊢
  obtain ⟨d0, d1, d2, d3, _⟩ := cells4 gz
  refine bodyPost_ret (v := .tuple #[tokV 3 0 X 0, .int .i64 ((0 + (1 + X.length) : Nat) : Int), .int .i64 0]) ?_ rfl ?_
  · simp [results, Tryd.f15, go_sem, tokV, d0, d1, d2, d3]
  · exact ⟨rfl, fz⟩

theorem readE_cases (l : List UInt8) : readE l = 0 ∨ readE l = 2 ∨ readE l = 5 := by
  unfold readE; split
  · split
    · exact .inl rfl
    · exact .inr (.inl rfl)
  · exact .inr (.inr rfl)
set_option maxHeartbeats 1000000 in
set_option maxRecDepth 100000 in
theorem one_digit (s : ByteArray) (hs : s.size ≤ 1000000) (hp : 0 < s.size) (h1 : isDig s[0] = true) (w : World) (hE : EnvL w) :
    Calls Tryd.prog 15 #[.string s] w fun e w' => oneOk (tok s.data.toList) 0 0 e ∧ Fr [] w w' := by
  have hd := (isDig_iff s[0]).1 h1
  have n1 : smallB s[0] = false := by rw [← smallI_byte, Bool.eq_false_iff]; intro h; simp [smallI] at h; omega
  have n2 : greatB s[0] = false := by rw [← greatI_byte, Bool.eq_false_iff]; intro h; simp [greatI] at h; omega
  have n3 : s[0] ≠ 35 := by intro h; rw [h] at hd; exact absurd hd (by decide)
  have ht : tok s.data.toList = (if readE (runL s.data.toList) = 0 then .ok (4, [], readN (runL s.data.toList), (runL s.data.toList).length) else .error (if readE (runL s.data.toList) = 5 then 20 else readE (runL s.data.toList))) := by
    rw [list_head s hp, tok, if_neg (by simp [n1]), if_neg (by simp [n2]), if_neg (fun h => n3 h.1), if_pos h1]
  rw [ht]
  have hsm := smallI_byte s[0]
  have hgr := greatI_byte s[0]
  have hdg := digitI_byte s[0]
  rw [n1] at hsm
  rw [n2] at hgr
  rw [h1] at hdg
  have b35 : (((s[0].toNat : Nat) : Int) == 35) = false := by rw [beq_eq_false_iff_ne]; omega
  have e35 : ¬ ((s[0].toNat : Nat) : Int) = 35 := by omega
  have wv : wrap32 ((s[0].toNat : Nat) : Int) = ((s[0].toNat : Nat) : Int) := by have := s[0].toNat_lt; unfold wrap32; omega
  have hrl := runL_le s.data.toList
  rw [size_list] at hrl
  have cr := fun w => Lib.hid (run_any s (by omega) w)
  have cd := fun w hE => Lib.hid (Read_any ⟨(runL s.data.toList).toArray⟩ (by show (runL s.data.toList).length ≤ 281474976710656; omega) w hE)
  have hcase := readE_cases (runL s.data.toList)
  clear ht h1 n1 n2 n3 hd
  generalize runL s.data.toList = X at *
  rcases hcase with hc | hc | hc
  · have hc2 : readE (ByteArray.mk X.toArray).data.toList = 0 := hc
    rw [if_pos hc]
    go_enter Tryd.func15, Tryd.ntmps15
    go_wp2_with fail
    have f0 : Fr [] w (w.alloc (.cells #[.int .i64 0, .int .i64 0, .string ⟨#[]⟩, .int .i64 0] 31)) := (Fr.refl [] w).alloc _
    have h0 : (w.alloc (.cells #[.int .i64 0, .int .i64 0, .string ⟨#[]⟩, .int .i64 0] 31)).heap[w.heap.size]? = some (.cells #[.int .i64 0, .int .i64 0, .string ⟨#[]⟩, .int .i64 0] 31 (0, 0)) := Array.getElem?_push_size
    generalize (w.alloc (.cells #[.int .i64 0, .int .i64 0, .string ⟨#[]⟩, .int .i64 0] 31)) = w1 at *
    have hBw : w.heap.size ≤ w.heap.size := Nat.le_refl _
    generalize hB : w.heap.size = B at h0 hBw ⊢
    refine (small_any _ _).mono ?_; rintro e x1 ⟨rfl, rfl⟩; go_wp2_with fail
    refine (great_any _ _).mono ?_; rintro e x1 ⟨rfl, rfl⟩; go_wp2_with fail
    refine (digit_any _ _).mono ?_; rintro e x1 ⟨rfl, rfl⟩; go_wp2_with fail
    refine (cr _).out.mono ?_; rintro e x1 ⟨rfl, f1⟩; go_wp2_with fail
    refine (cd _ ((hE.fr f0).fr f1).env).out.mono ?_; rintro e x2 ⟨rfl, f2⟩; rw [hc2]
    have en : readN (ByteArray.mk X.toArray).data.toList = readN X := rfl
    rw [en]
    have g := f2.keep (f1.keep h0 (fun h => by cases h)) (fun h => by cases h)
    obtain ⟨c0, c1, c2, c3, z0, z1, z2, z3⟩ := cells4 g
    have ff := (f0.trans f1).trans f2
    have gz := set4 g (.int .i64 4) (.int .i64 0) (.string ⟨([] : List UInt8).toArray⟩) (.int .i64 (readN X))
    have fz := ff.store4 hB (.int .i64 4) (.int .i64 0) (.string ⟨([] : List UInt8).toArray⟩) (.int .i64 (readN X))
    clear h0 g
    go_wp2_with fail
    generalize (((x2.setCell ⟨B, 0, none⟩ (.int .i64 4)).setCell ⟨B, 1, none⟩ (.int .i64 0)).setCell ⟨B, 2, none⟩ (.string ⟨([] : List UInt8).toArray⟩)).setCell ⟨B, 3, none⟩ (.int .i64 (readN X)) = Z at gz fz ⊢
    obtain ⟨d0, d1, d2, d3, _⟩ := cells4 gz
    refine bodyPost_ret (v := .tuple #[tokV 4 0 ([] : List UInt8) (readN X), .int .i64 ((0 + X.length : Nat) : Int), .int .i64 0]) ?_ rfl ?_
    · simp [results, Tryd.f15, go_sem, tokV, d0, d1, d2, d3]
    · exact ⟨rfl, fz⟩
  · have hc2 : readE (ByteArray.mk X.toArray).data.toList = 2 := hc
    rw [if_neg (by omega), if_neg (by omega), hc]
    go_enter Tryd.func15, Tryd.ntmps15
    go_wp2_with fail
    have f0 : Fr [] w (w.alloc (.cells #[.int .i64 0, .int .i64 0, .string ⟨#[]⟩, .int .i64 0] 31)) := (Fr.refl [] w).alloc _
    have h0 : (w.alloc (.cells #[.int .i64 0, .int .i64 0, .string ⟨#[]⟩, .int .i64 0] 31)).heap[w.heap.size]? = some (.cells #[.int .i64 0, .int .i64 0, .string ⟨#[]⟩, .int .i64 0] 31 (0, 0)) := Array.getElem?_push_size
    generalize (w.alloc (.cells #[.int .i64 0, .int .i64 0, .string ⟨#[]⟩, .int .i64 0] 31)) = w1 at *
    have hBw : w.heap.size ≤ w.heap.size := Nat.le_refl _
    generalize hB : w.heap.size = B at h0 hBw ⊢
    refine (small_any _ _).mono ?_; rintro e x1 ⟨rfl, rfl⟩; go_wp2_with fail
    refine (great_any _ _).mono ?_; rintro e x1 ⟨rfl, rfl⟩; go_wp2_with fail
    refine (digit_any _ _).mono ?_; rintro e x1 ⟨rfl, rfl⟩; go_wp2_with fail
    refine (cr _).out.mono ?_; rintro e x1 ⟨rfl, f1⟩; go_wp2_with fail
    refine (cd _ ((hE.fr f0).fr f1).env).out.mono ?_; rintro e x2 ⟨rfl, f2⟩; rw [hc2]
    have en : readN (ByteArray.mk X.toArray).data.toList = readN X := rfl
    rw [en]
    have g := f2.keep (f1.keep h0 (fun h => by cases h)) (fun h => by cases h)
    obtain ⟨c0, c1, c2, c3, z0, z1, z2, z3⟩ := cells4 g
    have ff := (f0.trans f1).trans f2
    have gz := set4 g (.int .i64 4) (.int .i64 0) (.string ⟨([] : List UInt8).toArray⟩) (.int .i64 (readN X))
    have fz := ff.store4 hB (.int .i64 4) (.int .i64 0) (.string ⟨([] : List UInt8).toArray⟩) (.int .i64 (readN X))
    clear h0 g
    go_wp2_with fail
    generalize (((x2.setCell ⟨B, 0, none⟩ (.int .i64 4)).setCell ⟨B, 1, none⟩ (.int .i64 0)).setCell ⟨B, 2, none⟩ (.string ⟨([] : List UInt8).toArray⟩)).setCell ⟨B, 3, none⟩ (.int .i64 (readN X)) = Z at gz fz ⊢
    obtain ⟨d0, d1, d2, d3, _⟩ := cells4 gz
    refine bodyPost_ret (v := .tuple #[tokV 4 0 ([] : List UInt8) (readN X), .int .i64 ((0 + X.length : Nat) : Int), .int .i64 2]) ?_ rfl ?_
    · simp [results, Tryd.f15, go_sem, tokV, d0, d1, d2, d3]
    · exact ⟨oneOk_err rfl, fz⟩
  · have hc2 : readE (ByteArray.mk X.toArray).data.toList = 5 := hc
    rw [if_neg (by omega), if_pos hc]
    go_enter Tryd.func15, Tryd.ntmps15
    go_wp2_with fail
    have f0 : Fr [] w (w.alloc (.cells #[.int .i64 0, .int .i64 0, .string ⟨#[]⟩, .int .i64 0] 31)) := (Fr.refl [] w).alloc _
    have h0 : (w.alloc (.cells #[.int .i64 0, .int .i64 0, .string ⟨#[]⟩, .int .i64 0] 31)).heap[w.heap.size]? = some (.cells #[.int .i64 0, .int .i64 0, .string ⟨#[]⟩, .int .i64 0] 31 (0, 0)) := Array.getElem?_push_size
    generalize (w.alloc (.cells #[.int .i64 0, .int .i64 0, .string ⟨#[]⟩, .int .i64 0] 31)) = w1 at *
    have hBw : w.heap.size ≤ w.heap.size := Nat.le_refl _
    generalize hB : w.heap.size = B at h0 hBw ⊢
    refine (small_any _ _).mono ?_; rintro e x1 ⟨rfl, rfl⟩; go_wp2_with fail
    refine (great_any _ _).mono ?_; rintro e x1 ⟨rfl, rfl⟩; go_wp2_with fail
    refine (digit_any _ _).mono ?_; rintro e x1 ⟨rfl, rfl⟩; go_wp2_with fail
    refine (cr _).out.mono ?_; rintro e x1 ⟨rfl, f1⟩; go_wp2_with fail
    refine (cd _ ((hE.fr f0).fr f1).env).out.mono ?_; rintro e x2 ⟨rfl, f2⟩; rw [hc2]
    have en : readN (ByteArray.mk X.toArray).data.toList = readN X := rfl
    rw [en]
    have g := f2.keep (f1.keep h0 (fun h => by cases h)) (fun h => by cases h)
    obtain ⟨c0, c1, c2, c3, z0, z1, z2, z3⟩ := cells4 g
    have ff := (f0.trans f1).trans f2
    have gz := set4 g (.int .i64 4) (.int .i64 0) (.string ⟨([] : List UInt8).toArray⟩) (.int .i64 (readN X))
    have fz := ff.store4 hB (.int .i64 4) (.int .i64 0) (.string ⟨([] : List UInt8).toArray⟩) (.int .i64 (readN X))
    clear h0 g
    go_wp2_with fail
    generalize (((x2.setCell ⟨B, 0, none⟩ (.int .i64 4)).setCell ⟨B, 1, none⟩ (.int .i64 0)).setCell ⟨B, 2, none⟩ (.string ⟨([] : List UInt8).toArray⟩)).setCell ⟨B, 3, none⟩ (.int .i64 (readN X)) = Z at gz fz ⊢
    obtain ⟨d0, d1, d2, d3, _⟩ := cells4 gz
    refine bodyPost_ret (v := .tuple #[tokV 4 0 ([] : List UInt8) (readN X), .int .i64 ((0 + X.length : Nat) : Int), .int .i64 20]) ?_ rfl ?_
    · simp [results, Tryd.f15, go_sem, tokV, d0, d1, d2, d3]
    · exact ⟨oneOk_err rfl, fz⟩

theorem tok_quote (l : List UInt8) (r : List UInt8) (h : l = 34 :: r) : tok l = match quoL l with
    | none => .error 20
    | some x => match unq x with
      | none => .error 20
      | some t => .ok (5, t, 0, x.length) := by
  subst h
  have e0 : quoL (34 :: r) = (qlen r).map fun k => (34 :: r).take (1 + k) := rfl
  rw [e0, tok, if_neg (by decide), if_neg (by decide), if_neg (fun x => absurd x.1 (by decide)), if_neg (by decide), if_pos rfl]
  cases e : qlen r with
  | none => rfl
  | some k =>
    have hk := q2_le r false k e
    simp only [Option.map_some]
    cases unq ((34 :: r).take (1 + k)) with
    | none => rfl
    | some t =>
      have : ((34 :: r).take (1 + k)).length = 1 + k := by rw [List.length_take, List.length_cons]; omega
      simp only [this]
theorem quoL_le {l x : List UInt8} (h : quoL l = some x) : x.length ≤ l.length := by
  unfold quoL at h
  cases e : qlen (l.drop 1) with
  | none => rw [e] at h; cases h
  | some k => rw [e] at h; cases h; rw [List.length_take]; omega
set_option maxHeartbeats 1000000 in
set_option maxRecDepth 100000 in
theorem one_quote (s : ByteArray) (hs : s.size ≤ 1000000) (hp : 0 < s.size) (h1 : s[0] = 34) (w : World) (hE : EnvL w) :
    Calls Tryd.prog 15 #[.string s] w fun e w' => oneOk (tok s.data.toList) 0 0 e ∧ Fr [] w w' := by
  have hv : s[0].toNat = 34 := by rw [h1]; rfl
  have ht := tok_quote s.data.toList (s.data.toList.drop 1) ((list_head s hp).trans (by rw [h1]))
  rw [ht]
  have hsm : smallI ((s[0].toNat : Nat) : Int) = false := by rw [smallI_byte, h1]; decide
  have hgr : greatI ((s[0].toNat : Nat) : Int) = false := by rw [greatI_byte, h1]; decide
  have hdg : digitI ((s[0].toNat : Nat) : Int) = false := by rw [digitI_byte, h1]; decide
  have b35 : (((s[0].toNat : Nat) : Int) == 35) = false := by rw [beq_eq_false_iff_ne]; omega
  have e35 : ¬ ((s[0].toNat : Nat) : Int) = 35 := by omega
  have b34 : (((s[0].toNat : Nat) : Int) == 34) = true := by rw [beq_iff_eq]; omega
  have e34 : ((s[0].toNat : Nat) : Int) = 34 := by omega
  have wv : wrap32 ((s[0].toNat : Nat) : Int) = ((s[0].toNat : Nat) : Int) := by have := s[0].toNat_lt; unfold wrap32; omega
  have cq := fun w => Lib.hid (quoted_any s hs w)
  clear ht h1 hv
  cases hq : quoL s.data.toList with
  | none =>
    rw [hq] at cq
    simp only [Option.getD_none, Option.isSome_none] at cq ⊢
    go_enter Tryd.func15, Tryd.ntmps15
    go_wp2_with fail
    have f0 : Fr [] w (w.alloc (.cells #[.int .i64 0, .int .i64 0, .string ⟨#[]⟩, .int .i64 0] 31)) := (Fr.refl [] w).alloc _
    have h0 : (w.alloc (.cells #[.int .i64 0, .int .i64 0, .string ⟨#[]⟩, .int .i64 0] 31)).heap[w.heap.size]? = some (.cells #[.int .i64 0, .int .i64 0, .string ⟨#[]⟩, .int .i64 0] 31 (0, 0)) := Array.getElem?_push_size
    generalize (w.alloc (.cells #[.int .i64 0, .int .i64 0, .string ⟨#[]⟩, .int .i64 0] 31)) = w1 at *
    have hBw : w.heap.size ≤ w.heap.size := Nat.le_refl _
    generalize hB : w.heap.size = B at h0 hBw ⊢
    refine (small_any _ _).mono ?_; rintro e x1 ⟨rfl, rfl⟩; go_wp2_with fail
    refine (great_any _ _).mono ?_; rintro e x1 ⟨rfl, rfl⟩; go_wp2_with fail
    refine (digit_any _ _).mono ?_; rintro e x1 ⟨rfl, rfl⟩; go_wp2_with fail
    refine (cq _).out.mono ?_; rintro e x1 ⟨rfl, rfl⟩
    have g := h0
    obtain ⟨c0, c1, c2, c3, z0, z1, z2, z3⟩ := cells4 g
    have ff := f0
    have gz := set4 g (.int .i64 0) (.int .i64 0) (.string ⟨([] : List UInt8).toArray⟩) (.int .i64 0)
    have fz := ff.store4 hB (.int .i64 0) (.int .i64 0) (.string ⟨([] : List UInt8).toArray⟩) (.int .i64 0)
    clear h0 g
    go_wp2_with fail
    generalize (((w1.setCell ⟨B, 0, none⟩ (.int .i64 0)).setCell ⟨B, 1, none⟩ (.int .i64 0)).setCell ⟨B, 2, none⟩ (.string ⟨([] : List UInt8).toArray⟩)).setCell ⟨B, 3, none⟩ (.int .i64 0) = Z at gz fz ⊢
    obtain ⟨d0, d1, d2, d3, _⟩ := cells4 gz
    refine bodyPost_ret (v := .tuple #[tokV 0 0 ([] : List UInt8) 0, .int .i64 ((0 : Nat) : Int), .int .i64 20]) ?_ rfl ?_
    · simp [results, Tryd.f15, go_sem, tokV, d0, d1, d2, d3]
    · exact ⟨oneOk_err rfl, fz⟩
  | some X =>
    have hx := quoL_le hq
    rw [size_list] at hx
    rw [hq] at cq
    simp only [Option.getD_some, Option.isSome_some] at cq ⊢
    have cu := fun w => Lib.hid (Unquote_any ⟨X.toArray⟩ (by show X.length ≤ 16777216; omega) w)
    have hxa : (ByteArray.mk X.toArray).data.toList = X := rfl
    rw [hxa] at cu
    clear hq hxa
    cases hu : unq X with
    | none =>
      obtain ⟨u1, u2⟩ := unq_n hu
      rw [u1, u2] at cu
      clear hu u1 u2
      simp only
      go_enter Tryd.func15, Tryd.ntmps15
      go_wp2_with fail
      have f0 : Fr [] w (w.alloc (.cells #[.int .i64 0, .int .i64 0, .string ⟨#[]⟩, .int .i64 0] 31)) := (Fr.refl [] w).alloc _
      have h0 : (w.alloc (.cells #[.int .i64 0, .int .i64 0, .string ⟨#[]⟩, .int .i64 0] 31)).heap[w.heap.size]? = some (.cells #[.int .i64 0, .int .i64 0, .string ⟨#[]⟩, .int .i64 0] 31 (0, 0)) := Array.getElem?_push_size
      generalize (w.alloc (.cells #[.int .i64 0, .int .i64 0, .string ⟨#[]⟩, .int .i64 0] 31)) = w1 at *
      have hBw : w.heap.size ≤ w.heap.size := Nat.le_refl _
      generalize hB : w.heap.size = B at h0 hBw ⊢
      refine (small_any _ _).mono ?_; rintro e x1 ⟨rfl, rfl⟩; go_wp2_with fail
      refine (great_any _ _).mono ?_; rintro e x1 ⟨rfl, rfl⟩; go_wp2_with fail
      refine (digit_any _ _).mono ?_; rintro e x1 ⟨rfl, rfl⟩; go_wp2_with fail
      refine (cq _).out.mono ?_; rintro e x1 ⟨rfl, rfl⟩; go_wp2_with fail
      refine (cu _).out.mono ?_; rintro e x1 ⟨rfl, f1⟩
      have g := f1.keep h0 (fun h => by cases h)
      obtain ⟨c0, c1, c2, c3, z0, z1, z2, z3⟩ := cells4 g
      have ff := f0.trans f1
      have gz := set4 g (.int .i64 0) (.int .i64 0) (.string ⟨([] : List UInt8).toArray⟩) (.int .i64 0)
      have fz := ff.store4 hB (.int .i64 0) (.int .i64 0) (.string ⟨([] : List UInt8).toArray⟩) (.int .i64 0)
      clear h0 g
      go_wp2_with fail
      generalize (((x1.setCell ⟨B, 0, none⟩ (.int .i64 0)).setCell ⟨B, 1, none⟩ (.int .i64 0)).setCell ⟨B, 2, none⟩ (.string ⟨([] : List UInt8).toArray⟩)).setCell ⟨B, 3, none⟩ (.int .i64 0) = Z at gz fz ⊢
      obtain ⟨d0, d1, d2, d3, _⟩ := cells4 gz
      refine bodyPost_ret (v := .tuple #[tokV 0 0 ([] : List UInt8) 0, .int .i64 ((0 : Nat) : Int), .int .i64 20]) ?_ rfl ?_
      · simp [results, Tryd.f15, go_sem, tokV, d0, d1, d2, d3]
      · exact ⟨oneOk_err rfl, fz⟩
    | some U =>
      obtain ⟨u1, u2⟩ := unq_s hu
      rw [u1, u2] at cu
      clear hu u1 u2
      simp only
      go_enter Tryd.func15, Tryd.ntmps15
      go_wp2_with fail
      have f0 : Fr [] w (w.alloc (.cells #[.int .i64 0, .int .i64 0, .string ⟨#[]⟩, .int .i64 0] 31)) := (Fr.refl [] w).alloc _
      have h0 : (w.alloc (.cells #[.int .i64 0, .int .i64 0, .string ⟨#[]⟩, .int .i64 0] 31)).heap[w.heap.size]? = some (.cells #[.int .i64 0, .int .i64 0, .string ⟨#[]⟩, .int .i64 0] 31 (0, 0)) := Array.getElem?_push_size
      generalize (w.alloc (.cells #[.int .i64 0, .int .i64 0, .string ⟨#[]⟩, .int .i64 0] 31)) = w1 at *
      have hBw : w.heap.size ≤ w.heap.size := Nat.le_refl _
      generalize hB : w.heap.size = B at h0 hBw ⊢
      refine (small_any _ _).mono ?_; rintro e x1 ⟨rfl, rfl⟩; go_wp2_with fail
      refine (great_any _ _).mono ?_; rintro e x1 ⟨rfl, rfl⟩; go_wp2_with fail
      refine (digit_any _ _).mono ?_; rintro e x1 ⟨rfl, rfl⟩; go_wp2_with fail
      refine (cq _).out.mono ?_; rintro e x1 ⟨rfl, rfl⟩; go_wp2_with fail
      refine (cu _).out.mono ?_; rintro e x1 ⟨rfl, f1⟩
      have g := f1.keep h0 (fun h => by cases h)
      obtain ⟨c0, c1, c2, c3, z0, z1, z2, z3⟩ := cells4 g
      have ff := f0.trans f1
      have gz := set4 g (.int .i64 5) (.int .i64 0) (.string ⟨U.toArray⟩) (.int .i64 0)
      have fz := ff.store4 hB (.int .i64 5) (.int .i64 0) (.string ⟨U.toArray⟩) (.int .i64 0)
      clear h0 g
      go_wp2_with fail
      generalize (((x1.setCell ⟨B, 0, none⟩ (.int .i64 5)).setCell ⟨B, 1, none⟩ (.int .i64 0)).setCell ⟨B, 2, none⟩ (.string ⟨U.toArray⟩)).setCell ⟨B, 3, none⟩ (.int .i64 0) = Z at gz fz ⊢
      obtain ⟨d0, d1, d2, d3, _⟩ := cells4 gz
      refine bodyPost_ret (v := .tuple #[tokV 5 0 U 0, .int .i64 ((0 + X.length : Nat) : Int), .int .i64 0]) ?_ rfl ?_
      · simp [results, Tryd.f15, go_sem, tokV, d0, d1, d2, d3]
      · exact ⟨rfl, fz⟩

theorem signOf_none {l : List UInt8} (h : signsL.find? (fun x => x.isPrefixOf l) = none) : signOf l = [] := by unfold signOf pfxB; rw [h]; rfl
theorem signOf_some {l x : List UInt8} (h : signsL.find? (fun x => x.isPrefixOf l) = some x) : signOf l = x := by unfold signOf pfxB; rw [h]; rfl
set_option maxHeartbeats 1000000 in
set_option maxRecDepth 100000 in
theorem one_sign (s : ByteArray) (hs : s.size ≤ 1000000) (hp : 0 < s.size) (h1 : smallB s[0] = false) (h2 : greatB s[0] = false) (h3 : s[0] ≠ 35) (h4 : isDig s[0] = false) (h5 : s[0] ≠ 34) (w : World) (hE : EnvL w) :
    Calls Tryd.prog 15 #[.string s] w fun e w' => oneOk (tok s.data.toList) 0 0 e ∧ Fr [] w w' := by
  have ht : tok s.data.toList = match signsL.find? (fun x => x.isPrefixOf s.data.toList) with
      | none => .error 20
      | some x => .ok (7, x, 0, x.length) := by
    conv => lhs; rw [list_head s hp]
    rw [tok, if_neg (by simp [h1]), if_neg (by simp [h2]), if_neg ?n3, if_neg (by simp [h4]), if_neg h5, ← list_head s hp]
    case n3 =>
      rintro ⟨x1, x2⟩
      exact h3 x1
    cases signsL.find? (fun x => x.isPrefixOf s.data.toList) with
    | none => rfl
    | some x => rfl
  rw [ht]
  have hsm := smallI_byte s[0]
  have hgr := greatI_byte s[0]
  have hdg := digitI_byte s[0]
  rw [h1] at hsm
  rw [h2] at hgr
  rw [h4] at hdg
  have e34 : ¬ ((s[0].toNat : Nat) : Int) = 34 := by intro h; apply h5; apply UInt8.toNat_inj.1; have h9 : (34 : UInt8).toNat = 34 := rfl; omega
  have b34 : (((s[0].toNat : Nat) : Int) == 34) = false := by rw [beq_eq_false_iff_ne]; exact e34
  have wv : wrap32 ((s[0].toNat : Nat) : Int) = ((s[0].toNat : Nat) : Int) := by have := s[0].toNat_lt; unfold wrap32; omega
  have cs := fun w => Lib.hid (sign_any s hs w)
  have b35 : (((s[0].toNat : Nat) : Int) == 35) = false := by rw [beq_eq_false_iff_ne]; intro h; apply h3; apply UInt8.toNat_inj.1; have h9 : (35 : UInt8).toNat = 35 := rfl; omega
  have e35 : ¬ ((s[0].toNat : Nat) : Int) = 35 := by rw [beq_eq_false_iff_ne] at b35; exact b35
  clear h3
  clear ht h1 h2 h4 h5
  cases hq : signsL.find? (fun x => x.isPrefixOf s.data.toList) with
  | none =>
    rw [signOf_none hq] at cs
    clear hq
    simp only
    go_enter Tryd.func15, Tryd.ntmps15
    go_wp2_with fail
    have f0 : Fr [] w (w.alloc (.cells #[.int .i64 0, .int .i64 0, .string ⟨#[]⟩, .int .i64 0] 31)) := (Fr.refl [] w).alloc _
    have h0 : (w.alloc (.cells #[.int .i64 0, .int .i64 0, .string ⟨#[]⟩, .int .i64 0] 31)).heap[w.heap.size]? = some (.cells #[.int .i64 0, .int .i64 0, .string ⟨#[]⟩, .int .i64 0] 31 (0, 0)) := Array.getElem?_push_size
    generalize (w.alloc (.cells #[.int .i64 0, .int .i64 0, .string ⟨#[]⟩, .int .i64 0] 31)) = w1 at *
    have hBw : w.heap.size ≤ w.heap.size := Nat.le_refl _
    generalize hB : w.heap.size = B at h0 hBw ⊢
    refine (small_any _ _).mono ?_; rintro e x1 ⟨rfl, rfl⟩; go_wp2_with fail
    refine (great_any _ _).mono ?_; rintro e x1 ⟨rfl, rfl⟩; go_wp2_with fail
    refine (digit_any _ _).mono ?_; rintro e x1 ⟨rfl, rfl⟩; go_wp2_with fail
    refine (cs _).out.mono ?_; rintro e x1 ⟨rfl, f1'⟩
    have f1 := Fr.of_below f1'
    clear f1'
    have g := f1.keep h0 (fun h => by cases h)
    obtain ⟨c0, c1, c2, c3, z0, z1, z2, z3⟩ := cells4 g
    have ff := f0.trans f1
    have gz := set4 g (.int .i64 0) (.int .i64 0) (.string ⟨([] : List UInt8).toArray⟩) (.int .i64 0)
    have fz := ff.store4 hB (.int .i64 0) (.int .i64 0) (.string ⟨([] : List UInt8).toArray⟩) (.int .i64 0)
    clear h0 g
    go_wp2_with fail
    generalize (((x1.setCell ⟨B, 0, none⟩ (.int .i64 0)).setCell ⟨B, 1, none⟩ (.int .i64 0)).setCell ⟨B, 2, none⟩ (.string ⟨([] : List UInt8).toArray⟩)).setCell ⟨B, 3, none⟩ (.int .i64 0) = Z at gz fz ⊢
    obtain ⟨d0, d1, d2, d3, _⟩ := cells4 gz
    refine bodyPost_ret (v := .tuple #[tokV 0 0 ([] : List UInt8) 0, .int .i64 ((0 : Nat) : Int), .int .i64 20]) ?_ rfl ?_
    · simp [results, Tryd.f15, go_sem, tokV, d0, d1, d2, d3]
    · exact ⟨oneOk_err rfl, fz⟩
  | some X =>
    have hx : ¬ X = [] := by
      have := (signs_facts X (List.mem_of_find?_eq_some hq)).1
      intro h; subst h; simp at this
    have hx0 : X.isEmpty = false := by cases X with | nil => exact absurd rfl hx | cons _ _ => rfl
    have hx2 : (ByteArray.mk X.toArray).toList = X := by rw [ByteArray.toList_eq]
    have e1 : ¬ (ByteArray.mk X.toArray).toList = [] := by rw [hx2]; exact hx
    have e0 : (ByteArray.mk X.toArray).toList.isEmpty = false := by rw [hx2]; exact hx0
    rw [signOf_some hq] at cs
    clear hq hx2
    simp only
    go_enter Tryd.func15, Tryd.ntmps15
    go_wp2_with fail
    have f0 : Fr [] w (w.alloc (.cells #[.int .i64 0, .int .i64 0, .string ⟨#[]⟩, .int .i64 0] 31)) := (Fr.refl [] w).alloc _
    have h0 : (w.alloc (.cells #[.int .i64 0, .int .i64 0, .string ⟨#[]⟩, .int .i64 0] 31)).heap[w.heap.size]? = some (.cells #[.int .i64 0, .int .i64 0, .string ⟨#[]⟩, .int .i64 0] 31 (0, 0)) := Array.getElem?_push_size
    generalize (w.alloc (.cells #[.int .i64 0, .int .i64 0, .string ⟨#[]⟩, .int .i64 0] 31)) = w1 at *
    have hBw : w.heap.size ≤ w.heap.size := Nat.le_refl _
    generalize hB : w.heap.size = B at h0 hBw ⊢
    refine (small_any _ _).mono ?_; rintro e x1 ⟨rfl, rfl⟩; go_wp2_with fail
    refine (great_any _ _).mono ?_; rintro e x1 ⟨rfl, rfl⟩; go_wp2_with fail
    refine (digit_any _ _).mono ?_; rintro e x1 ⟨rfl, rfl⟩; go_wp2_with fail
    refine (cs _).out.mono ?_; rintro e x1 ⟨rfl, f1'⟩
    have f1 := Fr.of_below f1'
    clear f1'
    have g := f1.keep h0 (fun h => by cases h)
    obtain ⟨c0, c1, c2, c3, z0, z1, z2, z3⟩ := cells4 g
    have ff := f0.trans f1
    have gz := set4 g (.int .i64 7) (.int .i64 0) (.string ⟨X.toArray⟩) (.int .i64 0)
    have fz := ff.store4 hB (.int .i64 7) (.int .i64 0) (.string ⟨X.toArray⟩) (.int .i64 0)
    clear h0 g
    go_wp2_with fail
    generalize (((x1.setCell ⟨B, 0, none⟩ (.int .i64 7)).setCell ⟨B, 1, none⟩ (.int .i64 0)).setCell ⟨B, 2, none⟩ (.string ⟨X.toArray⟩)).setCell ⟨B, 3, none⟩ (.int .i64 0) = Z at gz fz ⊢
    obtain ⟨d0, d1, d2, d3, _⟩ := cells4 gz
    refine bodyPost_ret (v := .tuple #[tokV 7 0 X 0, .int .i64 ((0 + X.length : Nat) : Int), .int .i64 0]) ?_ rfl ?_
    · simp [results, Tryd.f15, go_sem, tokV, d0, d1, d2, d3]
    · exact ⟨rfl, fz⟩
set_option maxHeartbeats 1000000 in
set_option maxRecDepth 100000 in
theorem one_hash1 (s : ByteArray) (hs : s.size ≤ 1000000) (hp : 0 < s.size) (h1 : smallB s[0] = false) (h2 : greatB s[0] = false) (h3 : s[0] = 35) (h6 : s.size ≤ 1) (h4 : isDig s[0] = false) (h5 : s[0] ≠ 34) (w : World) (hE : EnvL w) :
    Calls Tryd.prog 15 #[.string s] w fun e w' => oneOk (tok s.data.toList) 0 0 e ∧ Fr [] w w' := by
  have ht : tok s.data.toList = match signsL.find? (fun x => x.isPrefixOf s.data.toList) with
      | none => .error 20
      | some x => .ok (7, x, 0, x.length) := by
    conv => lhs; rw [list_head s hp]
    rw [tok, if_neg (by simp [h1]), if_neg (by simp [h2]), if_neg ?n3, if_neg (by simp [h4]), if_neg h5, ← list_head s hp]
    case n3 =>
      rintro ⟨x1, x2⟩
      rw [List.drop_of_length_le (by rw [size_list]; exact h6)] at x2; simp at x2
    cases signsL.find? (fun x => x.isPrefixOf s.data.toList) with
    | none => rfl
    | some x => rfl
  rw [ht]
  have hsm := smallI_byte s[0]
  have hgr := greatI_byte s[0]
  have hdg := digitI_byte s[0]
  rw [h1] at hsm
  rw [h2] at hgr
  rw [h4] at hdg
  have e34 : ¬ ((s[0].toNat : Nat) : Int) = 34 := by intro h; apply h5; apply UInt8.toNat_inj.1; have h9 : (34 : UInt8).toNat = 34 := rfl; omega
  have b34 : (((s[0].toNat : Nat) : Int) == 34) = false := by rw [beq_eq_false_iff_ne]; exact e34
  have wv : wrap32 ((s[0].toNat : Nat) : Int) = ((s[0].toNat : Nat) : Int) := by have := s[0].toNat_lt; unfold wrap32; omega
  have cs := fun w => Lib.hid (sign_any s hs w)
  have b35 : (((s[0].toNat : Nat) : Int) == 35) = true := by rw [h3]; rfl
  have e35 : ((s[0].toNat : Nat) : Int) = 35 := by rw [h3]; rfl
  have l1 : ¬ 1 < (s.size : Int) := by omega
  have l2 : decide (1 < (s.size : Int)) = false := by simpa using l1
  clear h3
  clear ht h1 h2 h4 h5
  cases hq : signsL.find? (fun x => x.isPrefixOf s.data.toList) with
  | none =>
    rw [signOf_none hq] at cs
    clear hq
    simp only
    go_enter Tryd.func15, Tryd.ntmps15
    go_wp2_with fail
    have f0 : Fr [] w (w.alloc (.cells #[.int .i64 0, .int .i64 0, .string ⟨#[]⟩, .int .i64 0] 31)) := (Fr.refl [] w).alloc _
    have h0 : (w.alloc (.cells #[.int .i64 0, .int .i64 0, .string ⟨#[]⟩, .int .i64 0] 31)).heap[w.heap.size]? = some (.cells #[.int .i64 0, .int .i64 0, .string ⟨#[]⟩, .int .i64 0] 31 (0, 0)) := Array.getElem?_push_size
    generalize (w.alloc (.cells #[.int .i64 0, .int .i64 0, .string ⟨#[]⟩, .int .i64 0] 31)) = w1 at *
    have hBw : w.heap.size ≤ w.heap.size := Nat.le_refl _
    generalize hB : w.heap.size = B at h0 hBw ⊢
    refine (small_any _ _).mono ?_; rintro e x1 ⟨rfl, rfl⟩; go_wp2_with fail
    refine (great_any _ _).mono ?_; rintro e x1 ⟨rfl, rfl⟩; go_wp2_with fail
    refine (digit_any _ _).mono ?_; rintro e x1 ⟨rfl, rfl⟩; go_wp2_with fail
    refine (cs _).out.mono ?_; rintro e x1 ⟨rfl, f1'⟩
    have f1 := Fr.of_below f1'
    clear f1'
    have g := f1.keep h0 (fun h => by cases h)
    obtain ⟨c0, c1, c2, c3, z0, z1, z2, z3⟩ := cells4 g
    have ff := f0.trans f1
    have gz := set4 g (.int .i64 0) (.int .i64 0) (.string ⟨([] : List UInt8).toArray⟩) (.int .i64 0)
    have fz := ff.store4 hB (.int .i64 0) (.int .i64 0) (.string ⟨([] : List UInt8).toArray⟩) (.int .i64 0)
    clear h0 g
    go_wp2_with fail
    generalize (((x1.setCell ⟨B, 0, none⟩ (.int .i64 0)).setCell ⟨B, 1, none⟩ (.int .i64 0)).setCell ⟨B, 2, none⟩ (.string ⟨([] : List UInt8).toArray⟩)).setCell ⟨B, 3, none⟩ (.int .i64 0) = Z at gz fz ⊢
    obtain ⟨d0, d1, d2, d3, _⟩ := cells4 gz
    refine bodyPost_ret (v := .tuple #[tokV 0 0 ([] : List UInt8) 0, .int .i64 ((0 : Nat) : Int), .int .i64 20]) ?_ rfl ?_
    · simp [results, Tryd.f15, go_sem, tokV, d0, d1, d2, d3]
    · exact ⟨oneOk_err rfl, fz⟩
  | some X =>
    have hx : ¬ X = [] := by
      have := (signs_facts X (List.mem_of_find?_eq_some hq)).1
      intro h; subst h; simp at this
    have hx0 : X.isEmpty = false := by cases X with | nil => exact absurd rfl hx | cons _ _ => rfl
    have hx2 : (ByteArray.mk X.toArray).toList = X := by rw [ByteArray.toList_eq]
    have e1 : ¬ (ByteArray.mk X.toArray).toList = [] := by rw [hx2]; exact hx
    have e0 : (ByteArray.mk X.toArray).toList.isEmpty = false := by rw [hx2]; exact hx0
    rw [signOf_some hq] at cs
    clear hq hx2
    simp only
    go_enter Tryd.func15, Tryd.ntmps15
    go_wp2_with fail
    have f0 : Fr [] w (w.alloc (.cells #[.int .i64 0, .int .i64 0, .string ⟨#[]⟩, .int .i64 0] 31)) := (Fr.refl [] w).alloc _
    have h0 : (w.alloc (.cells #[.int .i64 0, .int .i64 0, .string ⟨#[]⟩, .int .i64 0] 31)).heap[w.heap.size]? = some (.cells #[.int .i64 0, .int .i64 0, .string ⟨#[]⟩, .int .i64 0] 31 (0, 0)) := Array.getElem?_push_size
    generalize (w.alloc (.cells #[.int .i64 0, .int .i64 0, .string ⟨#[]⟩, .int .i64 0] 31)) = w1 at *
    have hBw : w.heap.size ≤ w.heap.size := Nat.le_refl _
    generalize hB : w.heap.size = B at h0 hBw ⊢
    refine (small_any _ _).mono ?_; rintro e x1 ⟨rfl, rfl⟩; go_wp2_with fail
    refine (great_any _ _).mono ?_; rintro e x1 ⟨rfl, rfl⟩; go_wp2_with fail
    refine (digit_any _ _).mono ?_; rintro e x1 ⟨rfl, rfl⟩; go_wp2_with fail
    refine (cs _).out.mono ?_; rintro e x1 ⟨rfl, f1'⟩
    have f1 := Fr.of_below f1'
    clear f1'
    have g := f1.keep h0 (fun h => by cases h)
    obtain ⟨c0, c1, c2, c3, z0, z1, z2, z3⟩ := cells4 g
    have ff := f0.trans f1
    have gz := set4 g (.int .i64 7) (.int .i64 0) (.string ⟨X.toArray⟩) (.int .i64 0)
    have fz := ff.store4 hB (.int .i64 7) (.int .i64 0) (.string ⟨X.toArray⟩) (.int .i64 0)
    clear h0 g
    go_wp2_with fail
    generalize (((x1.setCell ⟨B, 0, none⟩ (.int .i64 7)).setCell ⟨B, 1, none⟩ (.int .i64 0)).setCell ⟨B, 2, none⟩ (.string ⟨X.toArray⟩)).setCell ⟨B, 3, none⟩ (.int .i64 0) = Z at gz fz ⊢
    obtain ⟨d0, d1, d2, d3, _⟩ := cells4 gz
    refine bodyPost_ret (v := .tuple #[tokV 7 0 X 0, .int .i64 ((0 + X.length : Nat) : Int), .int .i64 0]) ?_ rfl ?_
    · simp [results, Tryd.f15, go_sem, tokV, d0, d1, d2, d3]
    · exact ⟨rfl, fz⟩
set_option maxHeartbeats 1000000 in
set_option maxRecDepth 100000 in
theorem one_hash2 (s : ByteArray) (hs : s.size ≤ 1000000) (hp : 0 < s.size) (h1 : smallB s[0] = false) (h2 : greatB s[0] = false) (h3 : s[0] = 35) (h6 : 1 < s.size) (h7 : greatB s[1] = false) (h4 : isDig s[0] = false) (h5 : s[0] ≠ 34) (w : World) (hE : EnvL w) :
    Calls Tryd.prog 15 #[.string s] w fun e w' => oneOk (tok s.data.toList) 0 0 e ∧ Fr [] w w' := by
  have ht : tok s.data.toList = match signsL.find? (fun x => x.isPrefixOf s.data.toList) with
      | none => .error 20
      | some x => .ok (7, x, 0, x.length) := by
    conv => lhs; rw [list_head s hp]
    rw [tok, if_neg (by simp [h1]), if_neg (by simp [h2]), if_neg ?n3, if_neg (by simp [h4]), if_neg h5, ← list_head s hp]
    case n3 =>
      rintro ⟨x1, x2⟩
      rw [drop_cons s 1 h6] at x2; simp [h7] at x2
    cases signsL.find? (fun x => x.isPrefixOf s.data.toList) with
    | none => rfl
    | some x => rfl
  rw [ht]
  have hsm := smallI_byte s[0]
  have hgr := greatI_byte s[0]
  have hdg := digitI_byte s[0]
  rw [h1] at hsm
  rw [h2] at hgr
  rw [h4] at hdg
  have e34 : ¬ ((s[0].toNat : Nat) : Int) = 34 := by intro h; apply h5; apply UInt8.toNat_inj.1; have h9 : (34 : UInt8).toNat = 34 := rfl; omega
  have b34 : (((s[0].toNat : Nat) : Int) == 34) = false := by rw [beq_eq_false_iff_ne]; exact e34
  have wv : wrap32 ((s[0].toNat : Nat) : Int) = ((s[0].toNat : Nat) : Int) := by have := s[0].toNat_lt; unfold wrap32; omega
  have cs := fun w => Lib.hid (sign_any s hs w)
  have b35 : (((s[0].toNat : Nat) : Int) == 35) = true := by rw [h3]; rfl
  have e35 : ((s[0].toNat : Nat) : Int) = 35 := by rw [h3]; rfl
  have l1 : 1 < (s.size : Int) := by omega
  have hg1 := greatI_byte s[1]
  rw [h7] at hg1
  have wv1 : wrap32 ((s[1].toNat : Nat) : Int) = ((s[1].toNat : Nat) : Int) := by have := s[1].toNat_lt; unfold wrap32; omega
  clear h3 h7
  clear ht h1 h2 h4 h5
  cases hq : signsL.find? (fun x => x.isPrefixOf s.data.toList) with
  | none =>
    rw [signOf_none hq] at cs
    clear hq
    simp only
    go_enter Tryd.func15, Tryd.ntmps15
    go_wp2_with fail
    have f0 : Fr [] w (w.alloc (.cells #[.int .i64 0, .int .i64 0, .string ⟨#[]⟩, .int .i64 0] 31)) := (Fr.refl [] w).alloc _
    have h0 : (w.alloc (.cells #[.int .i64 0, .int .i64 0, .string ⟨#[]⟩, .int .i64 0] 31)).heap[w.heap.size]? = some (.cells #[.int .i64 0, .int .i64 0, .string ⟨#[]⟩, .int .i64 0] 31 (0, 0)) := Array.getElem?_push_size
    generalize (w.alloc (.cells #[.int .i64 0, .int .i64 0, .string ⟨#[]⟩, .int .i64 0] 31)) = w1 at *
    have hBw : w.heap.size ≤ w.heap.size := Nat.le_refl _
    generalize hB : w.heap.size = B at h0 hBw ⊢
    refine (small_any _ _).mono ?_; rintro e x1 ⟨rfl, rfl⟩; go_wp2_with fail
    refine (great_any _ _).mono ?_; rintro e x1 ⟨rfl, rfl⟩; go_wp2_with fail
    refine (great_any _ _).mono ?_; rintro e x1 ⟨rfl, rfl⟩; go_wp2_with fail
    refine (digit_any _ _).mono ?_; rintro e x1 ⟨rfl, rfl⟩; go_wp2_with fail
    refine (cs _).out.mono ?_; rintro e x1 ⟨rfl, f1'⟩
    have f1 := Fr.of_below f1'
    clear f1'
    have g := f1.keep h0 (fun h => by cases h)
    obtain ⟨c0, c1, c2, c3, z0, z1, z2, z3⟩ := cells4 g
    have ff := f0.trans f1
    have gz := set4 g (.int .i64 0) (.int .i64 0) (.string ⟨([] : List UInt8).toArray⟩) (.int .i64 0)
    have fz := ff.store4 hB (.int .i64 0) (.int .i64 0) (.string ⟨([] : List UInt8).toArray⟩) (.int .i64 0)
    clear h0 g
    go_wp2_with fail
    generalize (((x1.setCell ⟨B, 0, none⟩ (.int .i64 0)).setCell ⟨B, 1, none⟩ (.int .i64 0)).setCell ⟨B, 2, none⟩ (.string ⟨([] : List UInt8).toArray⟩)).setCell ⟨B, 3, none⟩ (.int .i64 0) = Z at gz fz ⊢
    obtain ⟨d0, d1, d2, d3, _⟩ := cells4 gz
    refine bodyPost_ret (v := .tuple #[tokV 0 0 ([] : List UInt8) 0, .int .i64 ((0 : Nat) : Int), .int .i64 20]) ?_ rfl ?_
    · simp [results, Tryd.f15, go_sem, tokV, d0, d1, d2, d3]
    · exact ⟨oneOk_err rfl, fz⟩
  | some X =>
    have hx : ¬ X = [] := by
      have := (signs_facts X (List.mem_of_find?_eq_some hq)).1
      intro h; subst h; simp at this
    have hx0 : X.isEmpty = false := by cases X with | nil => exact absurd rfl hx | cons _ _ => rfl
    have hx2 : (ByteArray.mk X.toArray).toList = X := by rw [ByteArray.toList_eq]
    have e1 : ¬ (ByteArray.mk X.toArray).toList = [] := by rw [hx2]; exact hx
    have e0 : (ByteArray.mk X.toArray).toList.isEmpty = false := by rw [hx2]; exact hx0
    rw [signOf_some hq] at cs
    clear hq hx2
    simp only
    go_enter Tryd.func15, Tryd.ntmps15
    go_wp2_with fail
    have f0 : Fr [] w (w.alloc (.cells #[.int .i64 0, .int .i64 0, .string ⟨#[]⟩, .int .i64 0] 31)) := (Fr.refl [] w).alloc _
    have h0 : (w.alloc (.cells #[.int .i64 0, .int .i64 0, .string ⟨#[]⟩, .int .i64 0] 31)).heap[w.heap.size]? = some (.cells #[.int .i64 0, .int .i64 0, .string ⟨#[]⟩, .int .i64 0] 31 (0, 0)) := Array.getElem?_push_size
    generalize (w.alloc (.cells #[.int .i64 0, .int .i64 0, .string ⟨#[]⟩, .int .i64 0] 31)) = w1 at *
    have hBw : w.heap.size ≤ w.heap.size := Nat.le_refl _
    generalize hB : w.heap.size = B at h0 hBw ⊢
    refine (small_any _ _).mono ?_; rintro e x1 ⟨rfl, rfl⟩; go_wp2_with fail
    refine (great_any _ _).mono ?_; rintro e x1 ⟨rfl, rfl⟩; go_wp2_with fail
    refine (great_any _ _).mono ?_; rintro e x1 ⟨rfl, rfl⟩; go_wp2_with fail
    refine (digit_any _ _).mono ?_; rintro e x1 ⟨rfl, rfl⟩; go_wp2_with fail
    refine (cs _).out.mono ?_; rintro e x1 ⟨rfl, f1'⟩
    have f1 := Fr.of_below f1'
    clear f1'
    have g := f1.keep h0 (fun h => by cases h)
    obtain ⟨c0, c1, c2, c3, z0, z1, z2, z3⟩ := cells4 g
    have ff := f0.trans f1
    have gz := set4 g (.int .i64 7) (.int .i64 0) (.string ⟨X.toArray⟩) (.int .i64 0)
    have fz := ff.store4 hB (.int .i64 7) (.int .i64 0) (.string ⟨X.toArray⟩) (.int .i64 0)
    clear h0 g
    go_wp2_with fail
    generalize (((x1.setCell ⟨B, 0, none⟩ (.int .i64 7)).setCell ⟨B, 1, none⟩ (.int .i64 0)).setCell ⟨B, 2, none⟩ (.string ⟨X.toArray⟩)).setCell ⟨B, 3, none⟩ (.int .i64 0) = Z at gz fz ⊢
    obtain ⟨d0, d1, d2, d3, _⟩ := cells4 gz
    refine bodyPost_ret (v := .tuple #[tokV 7 0 X 0, .int .i64 ((0 + X.length : Nat) : Int), .int .i64 0]) ?_ rfl ?_
    · simp [results, Tryd.f15, go_sem, tokV, d0, d1, d2, d3]
    · exact ⟨rfl, fz⟩

/-- the program's token that a text begins with -/
theorem one_any (s : ByteArray) (hs : s.size ≤ 1000000) (hp : 0 < s.size) (w : World) (hE : EnvL w) :
    Calls Tryd.prog 15 #[.string s] w fun e w' => oneOk (tok s.data.toList) 0 0 e ∧ Fr [] w w' := by
  cases h1 : smallB s[0] with
  | true => exact one_small s hs hp h1 w hE
  | false => cases h2 : greatB s[0] with
    | true => exact one_great s hs hp h1 h2 w hE
    | false =>
      by_cases h3 : s[0] = 35
      · by_cases h6 : 1 < s.size
        · cases h7 : greatB s[1] with
          | true => exact one_tag s hs hp h3 h6 h7 w hE
          | false => exact one_hash2 s hs hp h1 h2 h3 h6 h7 (by rw [h3]; decide) (by rw [h3]; decide) w hE
        · exact one_hash1 s hs hp h1 h2 h3 (by omega) (by rw [h3]; decide) (by rw [h3]; decide) w hE
      · cases h4 : isDig s[0] with
        | true => exact one_digit s hs hp h4 w hE
        | false =>
          by_cases h5 : s[0] = 34
          · exact one_quote s hs hp h5 w hE
          · exact one_sign s hs hp h1 h2 h3 h4 h5 w hE
end Go.Proofs.YteffobcelgbiiaaDoor
