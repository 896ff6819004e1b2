/- Layer 1, walks: word.Do and its table of operations. -/
import Derived.Test.YtbeekiclmfcohaaDoorW1
import Derived.Test.YtbeekiclmfcohaaDoorMp
namespace Go.Proofs.YtbeekiclmfcohaaDoor
open Go.RowKit

/-- the table, its entries as they are laid -/
def opsES : Array MapEntry := #[⟨.int .i64 1, .func (.func 45) #[] #[], 0⟩, ⟨.int .i64 2, .func (.func 46) #[] #[], 1⟩, ⟨.int .i64 3, .func (.func 47) #[] #[], 2⟩, ⟨.int .i64 4, .func (.func 48) #[] #[], 3⟩, ⟨.int .i64 5, .func (.func 49) #[] #[], 4⟩, ⟨.int .i64 6, .func (.func 50) #[] #[], 5⟩, ⟨.int .i64 7, .func (.func 51) #[] #[], 6⟩, ⟨.int .i64 8, .func (.func 53) #[] #[], 7⟩, ⟨.int .i64 9, .func (.func 54) #[] #[], 8⟩]

set_option maxHeartbeats 400000 in
theorem operations_any (w : World) :
    Calls Tryd.prog 34 #[] w fun e w' => e = .returned (.map (some w.heap.size)) ∧ w' = w.alloc (.map opsES 9) := by
  have hmm := @run_makeMap Tryd.prog
  have k1 := run_insert_new Tryd.underlying51 Tryd.underlying3 w #[] 0 1 (.func (.func 45) #[] #[]) rfl
  simp only [List.push_toArray, List.nil_append, Nat.reduceAdd] at k1
  have k2 := run_insert_new Tryd.underlying51 Tryd.underlying3 w #[⟨.int .i64 1, .func (.func 45) #[] #[], 0⟩] 1 2 (.func (.func 46) #[] #[]) rfl
  simp only [List.push_toArray, List.nil_append, List.cons_append, Nat.reduceAdd] at k2
  have k3 := run_insert_new Tryd.underlying51 Tryd.underlying3 w #[⟨.int .i64 1, .func (.func 45) #[] #[], 0⟩, ⟨.int .i64 2, .func (.func 46) #[] #[], 1⟩] 2 3 (.func (.func 47) #[] #[]) rfl
  simp only [List.push_toArray, List.nil_append, List.cons_append, Nat.reduceAdd] at k3
  have k4 := run_insert_new Tryd.underlying51 Tryd.underlying3 w #[⟨.int .i64 1, .func (.func 45) #[] #[], 0⟩, ⟨.int .i64 2, .func (.func 46) #[] #[], 1⟩, ⟨.int .i64 3, .func (.func 47) #[] #[], 2⟩] 3 4 (.func (.func 48) #[] #[]) rfl
  simp only [List.push_toArray, List.nil_append, List.cons_append, Nat.reduceAdd] at k4
  have k5 := run_insert_new Tryd.underlying51 Tryd.underlying3 w #[⟨.int .i64 1, .func (.func 45) #[] #[], 0⟩, ⟨.int .i64 2, .func (.func 46) #[] #[], 1⟩, ⟨.int .i64 3, .func (.func 47) #[] #[], 2⟩, ⟨.int .i64 4, .func (.func 48) #[] #[], 3⟩] 4 5 (.func (.func 49) #[] #[]) rfl
  simp only [List.push_toArray, List.nil_append, List.cons_append, Nat.reduceAdd] at k5
  have k6 := run_insert_new Tryd.underlying51 Tryd.underlying3 w #[⟨.int .i64 1, .func (.func 45) #[] #[], 0⟩, ⟨.int .i64 2, .func (.func 46) #[] #[], 1⟩, ⟨.int .i64 3, .func (.func 47) #[] #[], 2⟩, ⟨.int .i64 4, .func (.func 48) #[] #[], 3⟩, ⟨.int .i64 5, .func (.func 49) #[] #[], 4⟩] 5 6 (.func (.func 50) #[] #[]) rfl
  simp only [List.push_toArray, List.nil_append, List.cons_append, Nat.reduceAdd] at k6
  have k7 := run_insert_new Tryd.underlying51 Tryd.underlying3 w #[⟨.int .i64 1, .func (.func 45) #[] #[], 0⟩, ⟨.int .i64 2, .func (.func 46) #[] #[], 1⟩, ⟨.int .i64 3, .func (.func 47) #[] #[], 2⟩, ⟨.int .i64 4, .func (.func 48) #[] #[], 3⟩, ⟨.int .i64 5, .func (.func 49) #[] #[], 4⟩, ⟨.int .i64 6, .func (.func 50) #[] #[], 5⟩] 6 7 (.func (.func 51) #[] #[]) rfl
  simp only [List.push_toArray, List.nil_append, List.cons_append, Nat.reduceAdd] at k7
  have k8 := run_insert_new Tryd.underlying51 Tryd.underlying3 w #[⟨.int .i64 1, .func (.func 45) #[] #[], 0⟩, ⟨.int .i64 2, .func (.func 46) #[] #[], 1⟩, ⟨.int .i64 3, .func (.func 47) #[] #[], 2⟩, ⟨.int .i64 4, .func (.func 48) #[] #[], 3⟩, ⟨.int .i64 5, .func (.func 49) #[] #[], 4⟩, ⟨.int .i64 6, .func (.func 50) #[] #[], 5⟩, ⟨.int .i64 7, .func (.func 51) #[] #[], 6⟩] 7 8 (.func (.func 53) #[] #[]) rfl
  simp only [List.push_toArray, List.nil_append, List.cons_append, Nat.reduceAdd] at k8
  have k9 := run_insert_new Tryd.underlying51 Tryd.underlying3 w #[⟨.int .i64 1, .func (.func 45) #[] #[], 0⟩, ⟨.int .i64 2, .func (.func 46) #[] #[], 1⟩, ⟨.int .i64 3, .func (.func 47) #[] #[], 2⟩, ⟨.int .i64 4, .func (.func 48) #[] #[], 3⟩, ⟨.int .i64 5, .func (.func 49) #[] #[], 4⟩, ⟨.int .i64 6, .func (.func 50) #[] #[], 5⟩, ⟨.int .i64 7, .func (.func 51) #[] #[], 6⟩, ⟨.int .i64 8, .func (.func 53) #[] #[], 7⟩] 8 9 (.func (.func 54) #[] #[]) rfl
  simp only [List.push_toArray, List.nil_append, List.cons_append, Nat.reduceAdd] at k9
  go_enter Tryd.func34, Tryd.ntmps34
  go_wp2
  go_ret
  exact ⟨rfl, rfl⟩

set_option maxHeartbeats 400000 in
theorem truth_any (b : Bool) (w : World) :
    Calls Tryd.prog 52 #[.bool b] w fun e w' => e = .returned (.int .i64 (if b then 1 else 0)) ∧ w = w' := by
  cases b
  · go_enter Tryd.func52, Tryd.ntmps52
    go_wp2
    go_ret
    exact ⟨rfl, rfl⟩
  · go_enter Tryd.func52, Tryd.ntmps52
    go_wp2
    go_ret
    exact ⟨rfl, rfl⟩

theorem zero_fn (w : World) : (zeroValue 49).run Tryd.prog w = .ok .nilFunc w := by kernel_rfl
theorem doN_bd (op a b : Int) (h0 : -4611686018427387904 ≤ a) (h1 : a ≤ 4611686018427387903) : -4611686018427387904 ≤ doN op a b ∧ doN op a b ≤ 4611686018427387903 := by
  have t := tmod_bd (b := b) h0 h1
  have q := fun x => W63_ge x
  have r := fun x => W63_le x
  unfold doN
  repeat (first | (split; first | exact ⟨q _, r _⟩ | omega | skip) | exact ⟨q _, r _⟩ | omega)

set_option maxHeartbeats 1000000 in
theorem Do1a (a b : Int) (hz : W63 b ≠ 0) (w : World) :
    Calls Tryd.prog 23 #[.int .i64 1, .int .i64 a, .int .i64 b] w fun e w' => e = .returned (.tuple #[.int .i64 (W63 (W63 a + W63 b)), .int .i64 (0)]) ∧ Fr [] w w' := by
  have z1 : ((W63 b : Int) == 0) = false := beq_eq_false_iff_ne.2 hz
  have hb := heap_new w (.map opsES 9)
  have hl := run_lookup_hit Tryd.underlying51 Tryd.underlying3 (w.alloc (.map opsES 9)) w.heap.size opsES 9 hb 1 0 (.func (.func 45) #[] #[]) rfl
  clear hb
  go_enter Tryd.func23, Tryd.ntmps23
  go_wp2_with (first | (go_at_call 11; refine (Wrap_any _ _).mono ?_; rintro e w1 ⟨rfl, rfl⟩) | (go_at_call 34; refine (operations_any _).mono ?_; rintro e w1 ⟨rfl, rfl⟩) | (go_at_call 52; refine (truth_any _ _).mono ?_; rintro e w1 ⟨rfl, rfl⟩) | go_in)
  all_goals go_ret2
  all_goals exact ⟨ret_ints (by first | rfl | exact W63_wrap64 _) rfl, (Fr.refl [] w).alloc _⟩

set_option maxHeartbeats 1000000 in
theorem Do1b (a b : Int) (hz : W63 b = 0) (w : World) :
    Calls Tryd.prog 23 #[.int .i64 1, .int .i64 a, .int .i64 b] w fun e w' => e = .returned (.tuple #[.int .i64 (W63 (W63 a + W63 b)), .int .i64 (0)]) ∧ Fr [] w w' := by
  have z1 : ((W63 b : Int) == 0) = true := beq_iff_eq.2 hz
  clear hz
  have hb := heap_new w (.map opsES 9)
  have hl := run_lookup_hit Tryd.underlying51 Tryd.underlying3 (w.alloc (.map opsES 9)) w.heap.size opsES 9 hb 1 0 (.func (.func 45) #[] #[]) rfl
  clear hb
  go_enter Tryd.func23, Tryd.ntmps23
  go_wp2_with (first | (go_at_call 11; refine (Wrap_any _ _).mono ?_; rintro e w1 ⟨rfl, rfl⟩) | (go_at_call 34; refine (operations_any _).mono ?_; rintro e w1 ⟨rfl, rfl⟩) | (go_at_call 52; refine (truth_any _ _).mono ?_; rintro e w1 ⟨rfl, rfl⟩) | go_in)
  all_goals go_ret2
  all_goals exact ⟨ret_ints (by first | rfl | exact W63_wrap64 _) rfl, (Fr.refl [] w).alloc _⟩

theorem Do1 (a b : Int) (w : World) :
    Calls Tryd.prog 23 #[.int .i64 1, .int .i64 a, .int .i64 b] w fun e w' => e = .returned (.tuple #[.int .i64 (doN 1 (W63 a) (W63 b)), .int .i64 (doE 1 (W63 b))]) ∧ Fr [] w w' := by
  have e1 : doN 1 (W63 a) (W63 b) = W63 (W63 a + W63 b) := by simp [doN]
  have e2 : doE 1 (W63 b) = 0 := by simp [doE]
  rw [e1, e2]
  by_cases hz : W63 b = 0
  · exact Do1b a b hz w
  · exact Do1a a b hz w

set_option maxHeartbeats 1000000 in
theorem Do2a (a b : Int) (hz : W63 b ≠ 0) (w : World) :
    Calls Tryd.prog 23 #[.int .i64 2, .int .i64 a, .int .i64 b] w fun e w' => e = .returned (.tuple #[.int .i64 (W63 (W63 a - W63 b)), .int .i64 (0)]) ∧ Fr [] w w' := by
  have z1 : ((W63 b : Int) == 0) = false := beq_eq_false_iff_ne.2 hz
  have hb := heap_new w (.map opsES 9)
  have hl := run_lookup_hit Tryd.underlying51 Tryd.underlying3 (w.alloc (.map opsES 9)) w.heap.size opsES 9 hb 2 1 (.func (.func 46) #[] #[]) rfl
  clear hb
  go_enter Tryd.func23, Tryd.ntmps23
  go_wp2_with (first | (go_at_call 11; refine (Wrap_any _ _).mono ?_; rintro e w1 ⟨rfl, rfl⟩) | (go_at_call 34; refine (operations_any _).mono ?_; rintro e w1 ⟨rfl, rfl⟩) | (go_at_call 52; refine (truth_any _ _).mono ?_; rintro e w1 ⟨rfl, rfl⟩) | go_in)
  all_goals go_ret2
  all_goals exact ⟨ret_ints (by first | rfl | exact W63_wrap64 _) rfl, (Fr.refl [] w).alloc _⟩

set_option maxHeartbeats 1000000 in
theorem Do2b (a b : Int) (hz : W63 b = 0) (w : World) :
    Calls Tryd.prog 23 #[.int .i64 2, .int .i64 a, .int .i64 b] w fun e w' => e = .returned (.tuple #[.int .i64 (W63 (W63 a - W63 b)), .int .i64 (0)]) ∧ Fr [] w w' := by
  have z1 : ((W63 b : Int) == 0) = true := beq_iff_eq.2 hz
  clear hz
  have hb := heap_new w (.map opsES 9)
  have hl := run_lookup_hit Tryd.underlying51 Tryd.underlying3 (w.alloc (.map opsES 9)) w.heap.size opsES 9 hb 2 1 (.func (.func 46) #[] #[]) rfl
  clear hb
  go_enter Tryd.func23, Tryd.ntmps23
  go_wp2_with (first | (go_at_call 11; refine (Wrap_any _ _).mono ?_; rintro e w1 ⟨rfl, rfl⟩) | (go_at_call 34; refine (operations_any _).mono ?_; rintro e w1 ⟨rfl, rfl⟩) | (go_at_call 52; refine (truth_any _ _).mono ?_; rintro e w1 ⟨rfl, rfl⟩) | go_in)
  all_goals go_ret2
  all_goals exact ⟨ret_ints (by first | rfl | exact W63_wrap64 _) rfl, (Fr.refl [] w).alloc _⟩

theorem Do2 (a b : Int) (w : World) :
    Calls Tryd.prog 23 #[.int .i64 2, .int .i64 a, .int .i64 b] w fun e w' => e = .returned (.tuple #[.int .i64 (doN 2 (W63 a) (W63 b)), .int .i64 (doE 2 (W63 b))]) ∧ Fr [] w w' := by
  have e1 : doN 2 (W63 a) (W63 b) = W63 (W63 a - W63 b) := by simp [doN]
  have e2 : doE 2 (W63 b) = 0 := by simp [doE]
  rw [e1, e2]
  by_cases hz : W63 b = 0
  · exact Do2b a b hz w
  · exact Do2a a b hz w

set_option maxHeartbeats 1000000 in
theorem Do3a (a b : Int) (hz : W63 b ≠ 0) (w : World) :
    Calls Tryd.prog 23 #[.int .i64 3, .int .i64 a, .int .i64 b] w fun e w' => e = .returned (.tuple #[.int .i64 (W63 (W63 a * W63 b)), .int .i64 (0)]) ∧ Fr [] w w' := by
  have z1 : ((W63 b : Int) == 0) = false := beq_eq_false_iff_ne.2 hz
  have hb := heap_new w (.map opsES 9)
  have hl := run_lookup_hit Tryd.underlying51 Tryd.underlying3 (w.alloc (.map opsES 9)) w.heap.size opsES 9 hb 3 2 (.func (.func 47) #[] #[]) rfl
  clear hb
  go_enter Tryd.func23, Tryd.ntmps23
  go_wp2_with (first | (go_at_call 11; refine (Wrap_any _ _).mono ?_; rintro e w1 ⟨rfl, rfl⟩) | (go_at_call 34; refine (operations_any _).mono ?_; rintro e w1 ⟨rfl, rfl⟩) | (go_at_call 52; refine (truth_any _ _).mono ?_; rintro e w1 ⟨rfl, rfl⟩) | go_in)
  all_goals go_ret2
  all_goals exact ⟨ret_ints (by first | rfl | exact W63_wrap64 _) rfl, (Fr.refl [] w).alloc _⟩

set_option maxHeartbeats 1000000 in
theorem Do3b (a b : Int) (hz : W63 b = 0) (w : World) :
    Calls Tryd.prog 23 #[.int .i64 3, .int .i64 a, .int .i64 b] w fun e w' => e = .returned (.tuple #[.int .i64 (W63 (W63 a * W63 b)), .int .i64 (0)]) ∧ Fr [] w w' := by
  have z1 : ((W63 b : Int) == 0) = true := beq_iff_eq.2 hz
  clear hz
  have hb := heap_new w (.map opsES 9)
  have hl := run_lookup_hit Tryd.underlying51 Tryd.underlying3 (w.alloc (.map opsES 9)) w.heap.size opsES 9 hb 3 2 (.func (.func 47) #[] #[]) rfl
  clear hb
  go_enter Tryd.func23, Tryd.ntmps23
  go_wp2_with (first | (go_at_call 11; refine (Wrap_any _ _).mono ?_; rintro e w1 ⟨rfl, rfl⟩) | (go_at_call 34; refine (operations_any _).mono ?_; rintro e w1 ⟨rfl, rfl⟩) | (go_at_call 52; refine (truth_any _ _).mono ?_; rintro e w1 ⟨rfl, rfl⟩) | go_in)
  all_goals go_ret2
  all_goals exact ⟨ret_ints (by first | rfl | exact W63_wrap64 _) rfl, (Fr.refl [] w).alloc _⟩

theorem Do3 (a b : Int) (w : World) :
    Calls Tryd.prog 23 #[.int .i64 3, .int .i64 a, .int .i64 b] w fun e w' => e = .returned (.tuple #[.int .i64 (doN 3 (W63 a) (W63 b)), .int .i64 (doE 3 (W63 b))]) ∧ Fr [] w w' := by
  have e1 : doN 3 (W63 a) (W63 b) = W63 (W63 a * W63 b) := by simp [doN]
  have e2 : doE 3 (W63 b) = 0 := by simp [doE]
  rw [e1, e2]
  by_cases hz : W63 b = 0
  · exact Do3b a b hz w
  · exact Do3a a b hz w

set_option maxHeartbeats 1000000 in
theorem Do6a (a b : Int) (hz : W63 b ≠ 0) (w : World) :
    Calls Tryd.prog 23 #[.int .i64 6, .int .i64 a, .int .i64 b] w fun e w' => e = .returned (.tuple #[.int .i64 (W63 (-(W63 a))), .int .i64 (0)]) ∧ Fr [] w w' := by
  have z1 : ((W63 b : Int) == 0) = false := beq_eq_false_iff_ne.2 hz
  have hb := heap_new w (.map opsES 9)
  have hl := run_lookup_hit Tryd.underlying51 Tryd.underlying3 (w.alloc (.map opsES 9)) w.heap.size opsES 9 hb 6 5 (.func (.func 50) #[] #[]) rfl
  clear hb
  go_enter Tryd.func23, Tryd.ntmps23
  go_wp2_with (first | (go_at_call 11; refine (Wrap_any _ _).mono ?_; rintro e w1 ⟨rfl, rfl⟩) | (go_at_call 34; refine (operations_any _).mono ?_; rintro e w1 ⟨rfl, rfl⟩) | (go_at_call 52; refine (truth_any _ _).mono ?_; rintro e w1 ⟨rfl, rfl⟩) | go_in)
  all_goals go_ret2
  all_goals exact ⟨ret_ints (by first | rfl | exact W63_wrap64 _) rfl, (Fr.refl [] w).alloc _⟩

set_option maxHeartbeats 1000000 in
theorem Do6b (a b : Int) (hz : W63 b = 0) (w : World) :
    Calls Tryd.prog 23 #[.int .i64 6, .int .i64 a, .int .i64 b] w fun e w' => e = .returned (.tuple #[.int .i64 (W63 (-(W63 a))), .int .i64 (0)]) ∧ Fr [] w w' := by
  have z1 : ((W63 b : Int) == 0) = true := beq_iff_eq.2 hz
  clear hz
  have hb := heap_new w (.map opsES 9)
  have hl := run_lookup_hit Tryd.underlying51 Tryd.underlying3 (w.alloc (.map opsES 9)) w.heap.size opsES 9 hb 6 5 (.func (.func 50) #[] #[]) rfl
  clear hb
  go_enter Tryd.func23, Tryd.ntmps23
  go_wp2_with (first | (go_at_call 11; refine (Wrap_any _ _).mono ?_; rintro e w1 ⟨rfl, rfl⟩) | (go_at_call 34; refine (operations_any _).mono ?_; rintro e w1 ⟨rfl, rfl⟩) | (go_at_call 52; refine (truth_any _ _).mono ?_; rintro e w1 ⟨rfl, rfl⟩) | go_in)
  all_goals go_ret2
  all_goals exact ⟨ret_ints (by first | rfl | exact W63_wrap64 _) rfl, (Fr.refl [] w).alloc _⟩

theorem Do6 (a b : Int) (w : World) :
    Calls Tryd.prog 23 #[.int .i64 6, .int .i64 a, .int .i64 b] w fun e w' => e = .returned (.tuple #[.int .i64 (doN 6 (W63 a) (W63 b)), .int .i64 (doE 6 (W63 b))]) ∧ Fr [] w w' := by
  have e1 : doN 6 (W63 a) (W63 b) = W63 (-(W63 a)) := by simp [doN]
  have e2 : doE 6 (W63 b) = 0 := by simp [doE]
  rw [e1, e2]
  by_cases hz : W63 b = 0
  · exact Do6b a b hz w
  · exact Do6a a b hz w

set_option maxHeartbeats 1000000 in
theorem Do7ta (a b : Int) (ht : (W63 a = W63 b)) (hz : W63 b ≠ 0) (w : World) :
    Calls Tryd.prog 23 #[.int .i64 7, .int .i64 a, .int .i64 b] w fun e w' => e = .returned (.tuple #[.int .i64 (1), .int .i64 (0)]) ∧ Fr [] w w' := by
  have z1 : ((W63 b : Int) == 0) = false := beq_eq_false_iff_ne.2 hz
  have t1 : ((W63 a : Int) == W63 b) = true := by simpa using ht
  clear ht
  clear hz
  have hb := heap_new w (.map opsES 9)
  have hl := run_lookup_hit Tryd.underlying51 Tryd.underlying3 (w.alloc (.map opsES 9)) w.heap.size opsES 9 hb 7 6 (.func (.func 51) #[] #[]) rfl
  clear hb
  go_enter Tryd.func23, Tryd.ntmps23
  go_wp2_with (first | (go_at_call 11; refine (Wrap_any _ _).mono ?_; rintro e w1 ⟨rfl, rfl⟩) | (go_at_call 34; refine (operations_any _).mono ?_; rintro e w1 ⟨rfl, rfl⟩) | (go_at_call 52; refine (truth_any _ _).mono ?_; rintro e w1 ⟨rfl, rfl⟩) | go_in)
  all_goals go_ret2
  all_goals exact ⟨ret_ints (W63_in (by decide) (by decide)) rfl, (Fr.refl [] w).alloc _⟩

set_option maxHeartbeats 1000000 in
theorem Do7tb (a b : Int) (ht : (W63 a = W63 b)) (hz : W63 b = 0) (w : World) :
    Calls Tryd.prog 23 #[.int .i64 7, .int .i64 a, .int .i64 b] w fun e w' => e = .returned (.tuple #[.int .i64 (1), .int .i64 (0)]) ∧ Fr [] w w' := by
  have z1 : ((W63 b : Int) == 0) = true := beq_iff_eq.2 hz
  have t1 : ((W63 a : Int) == W63 b) = true := by simpa using ht
  clear ht
  clear hz
  have hb := heap_new w (.map opsES 9)
  have hl := run_lookup_hit Tryd.underlying51 Tryd.underlying3 (w.alloc (.map opsES 9)) w.heap.size opsES 9 hb 7 6 (.func (.func 51) #[] #[]) rfl
  clear hb
  go_enter Tryd.func23, Tryd.ntmps23
  go_wp2_with (first | (go_at_call 11; refine (Wrap_any _ _).mono ?_; rintro e w1 ⟨rfl, rfl⟩) | (go_at_call 34; refine (operations_any _).mono ?_; rintro e w1 ⟨rfl, rfl⟩) | (go_at_call 52; refine (truth_any _ _).mono ?_; rintro e w1 ⟨rfl, rfl⟩) | go_in)
  all_goals go_ret2
  all_goals exact ⟨ret_ints (W63_in (by decide) (by decide)) rfl, (Fr.refl [] w).alloc _⟩

set_option maxHeartbeats 1000000 in
theorem Do7fa (a b : Int) (ht : ¬ (W63 a = W63 b)) (hz : W63 b ≠ 0) (w : World) :
    Calls Tryd.prog 23 #[.int .i64 7, .int .i64 a, .int .i64 b] w fun e w' => e = .returned (.tuple #[.int .i64 (0), .int .i64 (0)]) ∧ Fr [] w w' := by
  have z1 : ((W63 b : Int) == 0) = false := beq_eq_false_iff_ne.2 hz
  have t1 : ((W63 a : Int) == W63 b) = false := by simpa using ht
  clear ht
  clear hz
  have hb := heap_new w (.map opsES 9)
  have hl := run_lookup_hit Tryd.underlying51 Tryd.underlying3 (w.alloc (.map opsES 9)) w.heap.size opsES 9 hb 7 6 (.func (.func 51) #[] #[]) rfl
  clear hb
  go_enter Tryd.func23, Tryd.ntmps23
  go_wp2_with (first | (go_at_call 11; refine (Wrap_any _ _).mono ?_; rintro e w1 ⟨rfl, rfl⟩) | (go_at_call 34; refine (operations_any _).mono ?_; rintro e w1 ⟨rfl, rfl⟩) | (go_at_call 52; refine (truth_any _ _).mono ?_; rintro e w1 ⟨rfl, rfl⟩) | go_in)
  all_goals go_ret2
  all_goals exact ⟨ret_ints (W63_in (by decide) (by decide)) rfl, (Fr.refl [] w).alloc _⟩

set_option maxHeartbeats 1000000 in
theorem Do7fb (a b : Int) (ht : ¬ (W63 a = W63 b)) (hz : W63 b = 0) (w : World) :
    Calls Tryd.prog 23 #[.int .i64 7, .int .i64 a, .int .i64 b] w fun e w' => e = .returned (.tuple #[.int .i64 (0), .int .i64 (0)]) ∧ Fr [] w w' := by
  have z1 : ((W63 b : Int) == 0) = true := beq_iff_eq.2 hz
  have t1 : ((W63 a : Int) == W63 b) = false := by simpa using ht
  clear ht
  clear hz
  have hb := heap_new w (.map opsES 9)
  have hl := run_lookup_hit Tryd.underlying51 Tryd.underlying3 (w.alloc (.map opsES 9)) w.heap.size opsES 9 hb 7 6 (.func (.func 51) #[] #[]) rfl
  clear hb
  go_enter Tryd.func23, Tryd.ntmps23
  go_wp2_with (first | (go_at_call 11; refine (Wrap_any _ _).mono ?_; rintro e w1 ⟨rfl, rfl⟩) | (go_at_call 34; refine (operations_any _).mono ?_; rintro e w1 ⟨rfl, rfl⟩) | (go_at_call 52; refine (truth_any _ _).mono ?_; rintro e w1 ⟨rfl, rfl⟩) | go_in)
  all_goals go_ret2
  all_goals exact ⟨ret_ints (W63_in (by decide) (by decide)) rfl, (Fr.refl [] w).alloc _⟩

theorem Do7 (a b : Int) (w : World) :
    Calls Tryd.prog 23 #[.int .i64 7, .int .i64 a, .int .i64 b] w fun e w' => e = .returned (.tuple #[.int .i64 (doN 7 (W63 a) (W63 b)), .int .i64 (doE 7 (W63 b))]) ∧ Fr [] w w' := by
  have e2 : doE 7 (W63 b) = 0 := by simp [doE]
  rw [e2]
  by_cases hz : W63 b = 0
  · by_cases ht : W63 a = W63 b
    · have e1 : doN 7 (W63 a) (W63 b) = 1 := by unfold doN; simp [ht]
      rw [e1]; exact Do7tb a b ht hz w
    · have e1 : doN 7 (W63 a) (W63 b) = 0 := by unfold doN; simp [ht]
      rw [e1]; exact Do7fb a b ht hz w
  · by_cases ht : W63 a = W63 b
    · have e1 : doN 7 (W63 a) (W63 b) = 1 := by unfold doN; simp [ht]
      rw [e1]; exact Do7ta a b ht hz w
    · have e1 : doN 7 (W63 a) (W63 b) = 0 := by unfold doN; simp [ht]
      rw [e1]; exact Do7fa a b ht hz w

set_option maxHeartbeats 1000000 in
theorem Do8ta (a b : Int) (ht : (W63 a < W63 b)) (hz : W63 b ≠ 0) (w : World) :
    Calls Tryd.prog 23 #[.int .i64 8, .int .i64 a, .int .i64 b] w fun e w' => e = .returned (.tuple #[.int .i64 (1), .int .i64 (0)]) ∧ Fr [] w w' := by
  have z1 : ((W63 b : Int) == 0) = false := beq_eq_false_iff_ne.2 hz
  have t1 : decide (W63 a < W63 b) = true := by simpa using ht
  clear ht
  clear hz
  have hb := heap_new w (.map opsES 9)
  have hl := run_lookup_hit Tryd.underlying51 Tryd.underlying3 (w.alloc (.map opsES 9)) w.heap.size opsES 9 hb 8 7 (.func (.func 53) #[] #[]) rfl
  clear hb
  go_enter Tryd.func23, Tryd.ntmps23
  go_wp2_with (first | (go_at_call 11; refine (Wrap_any _ _).mono ?_; rintro e w1 ⟨rfl, rfl⟩) | (go_at_call 34; refine (operations_any _).mono ?_; rintro e w1 ⟨rfl, rfl⟩) | (go_at_call 52; refine (truth_any _ _).mono ?_; rintro e w1 ⟨rfl, rfl⟩) | go_in)
  all_goals go_ret2
  all_goals exact ⟨ret_ints (W63_in (by decide) (by decide)) rfl, (Fr.refl [] w).alloc _⟩

set_option maxHeartbeats 1000000 in
theorem Do8tb (a b : Int) (ht : (W63 a < W63 b)) (hz : W63 b = 0) (w : World) :
    Calls Tryd.prog 23 #[.int .i64 8, .int .i64 a, .int .i64 b] w fun e w' => e = .returned (.tuple #[.int .i64 (1), .int .i64 (0)]) ∧ Fr [] w w' := by
  have z1 : ((W63 b : Int) == 0) = true := beq_iff_eq.2 hz
  have t1 : decide (W63 a < W63 b) = true := by simpa using ht
  clear ht
  clear hz
  have hb := heap_new w (.map opsES 9)
  have hl := run_lookup_hit Tryd.underlying51 Tryd.underlying3 (w.alloc (.map opsES 9)) w.heap.size opsES 9 hb 8 7 (.func (.func 53) #[] #[]) rfl
  clear hb
  go_enter Tryd.func23, Tryd.ntmps23
  go_wp2_with (first | (go_at_call 11; refine (Wrap_any _ _).mono ?_; rintro e w1 ⟨rfl, rfl⟩) | (go_at_call 34; refine (operations_any _).mono ?_; rintro e w1 ⟨rfl, rfl⟩) | (go_at_call 52; refine (truth_any _ _).mono ?_; rintro e w1 ⟨rfl, rfl⟩) | go_in)
  all_goals go_ret2
  all_goals exact ⟨ret_ints (W63_in (by decide) (by decide)) rfl, (Fr.refl [] w).alloc _⟩

set_option maxHeartbeats 1000000 in
theorem Do8fa (a b : Int) (ht : ¬ (W63 a < W63 b)) (hz : W63 b ≠ 0) (w : World) :
    Calls Tryd.prog 23 #[.int .i64 8, .int .i64 a, .int .i64 b] w fun e w' => e = .returned (.tuple #[.int .i64 (0), .int .i64 (0)]) ∧ Fr [] w w' := by
  have z1 : ((W63 b : Int) == 0) = false := beq_eq_false_iff_ne.2 hz
  have t1 : decide (W63 a < W63 b) = false := by simpa using ht
  clear ht
  clear hz
  have hb := heap_new w (.map opsES 9)
  have hl := run_lookup_hit Tryd.underlying51 Tryd.underlying3 (w.alloc (.map opsES 9)) w.heap.size opsES 9 hb 8 7 (.func (.func 53) #[] #[]) rfl
  clear hb
  go_enter Tryd.func23, Tryd.ntmps23
  go_wp2_with (first | (go_at_call 11; refine (Wrap_any _ _).mono ?_; rintro e w1 ⟨rfl, rfl⟩) | (go_at_call 34; refine (operations_any _).mono ?_; rintro e w1 ⟨rfl, rfl⟩) | (go_at_call 52; refine (truth_any _ _).mono ?_; rintro e w1 ⟨rfl, rfl⟩) | go_in)
  all_goals go_ret2
  all_goals exact ⟨ret_ints (W63_in (by decide) (by decide)) rfl, (Fr.refl [] w).alloc _⟩

set_option maxHeartbeats 1000000 in
theorem Do8fb (a b : Int) (ht : ¬ (W63 a < W63 b)) (hz : W63 b = 0) (w : World) :
    Calls Tryd.prog 23 #[.int .i64 8, .int .i64 a, .int .i64 b] w fun e w' => e = .returned (.tuple #[.int .i64 (0), .int .i64 (0)]) ∧ Fr [] w w' := by
  have z1 : ((W63 b : Int) == 0) = true := beq_iff_eq.2 hz
  have t1 : decide (W63 a < W63 b) = false := by simpa using ht
  clear ht
  clear hz
  have hb := heap_new w (.map opsES 9)
  have hl := run_lookup_hit Tryd.underlying51 Tryd.underlying3 (w.alloc (.map opsES 9)) w.heap.size opsES 9 hb 8 7 (.func (.func 53) #[] #[]) rfl
  clear hb
  go_enter Tryd.func23, Tryd.ntmps23
  go_wp2_with (first | (go_at_call 11; refine (Wrap_any _ _).mono ?_; rintro e w1 ⟨rfl, rfl⟩) | (go_at_call 34; refine (operations_any _).mono ?_; rintro e w1 ⟨rfl, rfl⟩) | (go_at_call 52; refine (truth_any _ _).mono ?_; rintro e w1 ⟨rfl, rfl⟩) | go_in)
  all_goals go_ret2
  all_goals exact ⟨ret_ints (W63_in (by decide) (by decide)) rfl, (Fr.refl [] w).alloc _⟩

theorem Do8 (a b : Int) (w : World) :
    Calls Tryd.prog 23 #[.int .i64 8, .int .i64 a, .int .i64 b] w fun e w' => e = .returned (.tuple #[.int .i64 (doN 8 (W63 a) (W63 b)), .int .i64 (doE 8 (W63 b))]) ∧ Fr [] w w' := by
  have e2 : doE 8 (W63 b) = 0 := by simp [doE]
  rw [e2]
  by_cases hz : W63 b = 0
  · by_cases ht : W63 a < W63 b
    · have e1 : doN 8 (W63 a) (W63 b) = 1 := by unfold doN; simp [ht]
      rw [e1]; exact Do8tb a b ht hz w
    · have e1 : doN 8 (W63 a) (W63 b) = 0 := by unfold doN; simp [ht]
      rw [e1]; exact Do8fb a b ht hz w
  · by_cases ht : W63 a < W63 b
    · have e1 : doN 8 (W63 a) (W63 b) = 1 := by unfold doN; simp [ht]
      rw [e1]; exact Do8ta a b ht hz w
    · have e1 : doN 8 (W63 a) (W63 b) = 0 := by unfold doN; simp [ht]
      rw [e1]; exact Do8fa a b ht hz w

set_option maxHeartbeats 1000000 in
theorem Do9ta (a b : Int) (ht : (W63 a = 0)) (hz : W63 b ≠ 0) (w : World) :
    Calls Tryd.prog 23 #[.int .i64 9, .int .i64 a, .int .i64 b] w fun e w' => e = .returned (.tuple #[.int .i64 (1), .int .i64 (0)]) ∧ Fr [] w w' := by
  have z1 : ((W63 b : Int) == 0) = false := beq_eq_false_iff_ne.2 hz
  have t1 : ((W63 a : Int) == 0) = true := by simpa using ht
  clear ht
  clear hz
  have hb := heap_new w (.map opsES 9)
  have hl := run_lookup_hit Tryd.underlying51 Tryd.underlying3 (w.alloc (.map opsES 9)) w.heap.size opsES 9 hb 9 8 (.func (.func 54) #[] #[]) rfl
  clear hb
  go_enter Tryd.func23, Tryd.ntmps23
  go_wp2_with (first | (go_at_call 11; refine (Wrap_any _ _).mono ?_; rintro e w1 ⟨rfl, rfl⟩) | (go_at_call 34; refine (operations_any _).mono ?_; rintro e w1 ⟨rfl, rfl⟩) | (go_at_call 52; refine (truth_any _ _).mono ?_; rintro e w1 ⟨rfl, rfl⟩) | go_in)
  all_goals go_ret2
  all_goals exact ⟨ret_ints (W63_in (by decide) (by decide)) rfl, (Fr.refl [] w).alloc _⟩

set_option maxHeartbeats 1000000 in
theorem Do9tb (a b : Int) (ht : (W63 a = 0)) (hz : W63 b = 0) (w : World) :
    Calls Tryd.prog 23 #[.int .i64 9, .int .i64 a, .int .i64 b] w fun e w' => e = .returned (.tuple #[.int .i64 (1), .int .i64 (0)]) ∧ Fr [] w w' := by
  have z1 : ((W63 b : Int) == 0) = true := beq_iff_eq.2 hz
  have t1 : ((W63 a : Int) == 0) = true := by simpa using ht
  clear ht
  clear hz
  have hb := heap_new w (.map opsES 9)
  have hl := run_lookup_hit Tryd.underlying51 Tryd.underlying3 (w.alloc (.map opsES 9)) w.heap.size opsES 9 hb 9 8 (.func (.func 54) #[] #[]) rfl
  clear hb
  go_enter Tryd.func23, Tryd.ntmps23
  go_wp2_with (first | (go_at_call 11; refine (Wrap_any _ _).mono ?_; rintro e w1 ⟨rfl, rfl⟩) | (go_at_call 34; refine (operations_any _).mono ?_; rintro e w1 ⟨rfl, rfl⟩) | (go_at_call 52; refine (truth_any _ _).mono ?_; rintro e w1 ⟨rfl, rfl⟩) | go_in)
  all_goals go_ret2
  all_goals exact ⟨ret_ints (W63_in (by decide) (by decide)) rfl, (Fr.refl [] w).alloc _⟩

set_option maxHeartbeats 1000000 in
theorem Do9fa (a b : Int) (ht : ¬ (W63 a = 0)) (hz : W63 b ≠ 0) (w : World) :
    Calls Tryd.prog 23 #[.int .i64 9, .int .i64 a, .int .i64 b] w fun e w' => e = .returned (.tuple #[.int .i64 (0), .int .i64 (0)]) ∧ Fr [] w w' := by
  have z1 : ((W63 b : Int) == 0) = false := beq_eq_false_iff_ne.2 hz
  have t1 : ((W63 a : Int) == 0) = false := by simpa using ht
  clear ht
  clear hz
  have hb := heap_new w (.map opsES 9)
  have hl := run_lookup_hit Tryd.underlying51 Tryd.underlying3 (w.alloc (.map opsES 9)) w.heap.size opsES 9 hb 9 8 (.func (.func 54) #[] #[]) rfl
  clear hb
  go_enter Tryd.func23, Tryd.ntmps23
  go_wp2_with (first | (go_at_call 11; refine (Wrap_any _ _).mono ?_; rintro e w1 ⟨rfl, rfl⟩) | (go_at_call 34; refine (operations_any _).mono ?_; rintro e w1 ⟨rfl, rfl⟩) | (go_at_call 52; refine (truth_any _ _).mono ?_; rintro e w1 ⟨rfl, rfl⟩) | go_in)
  all_goals go_ret2
  all_goals exact ⟨ret_ints (W63_in (by decide) (by decide)) rfl, (Fr.refl [] w).alloc _⟩

set_option maxHeartbeats 1000000 in
theorem Do9fb (a b : Int) (ht : ¬ (W63 a = 0)) (hz : W63 b = 0) (w : World) :
    Calls Tryd.prog 23 #[.int .i64 9, .int .i64 a, .int .i64 b] w fun e w' => e = .returned (.tuple #[.int .i64 (0), .int .i64 (0)]) ∧ Fr [] w w' := by
  have z1 : ((W63 b : Int) == 0) = true := beq_iff_eq.2 hz
  have t1 : ((W63 a : Int) == 0) = false := by simpa using ht
  clear ht
  clear hz
  have hb := heap_new w (.map opsES 9)
  have hl := run_lookup_hit Tryd.underlying51 Tryd.underlying3 (w.alloc (.map opsES 9)) w.heap.size opsES 9 hb 9 8 (.func (.func 54) #[] #[]) rfl
  clear hb
  go_enter Tryd.func23, Tryd.ntmps23
  go_wp2_with (first | (go_at_call 11; refine (Wrap_any _ _).mono ?_; rintro e w1 ⟨rfl, rfl⟩) | (go_at_call 34; refine (operations_any _).mono ?_; rintro e w1 ⟨rfl, rfl⟩) | (go_at_call 52; refine (truth_any _ _).mono ?_; rintro e w1 ⟨rfl, rfl⟩) | go_in)
  all_goals go_ret2
  all_goals exact ⟨ret_ints (W63_in (by decide) (by decide)) rfl, (Fr.refl [] w).alloc _⟩

theorem Do9 (a b : Int) (w : World) :
    Calls Tryd.prog 23 #[.int .i64 9, .int .i64 a, .int .i64 b] w fun e w' => e = .returned (.tuple #[.int .i64 (doN 9 (W63 a) (W63 b)), .int .i64 (doE 9 (W63 b))]) ∧ Fr [] w w' := by
  have e2 : doE 9 (W63 b) = 0 := by simp [doE]
  rw [e2]
  by_cases hz : W63 b = 0
  · by_cases ht : W63 a = 0
    · have e1 : doN 9 (W63 a) (W63 b) = 1 := by unfold doN; simp [ht]
      rw [e1]; exact Do9tb a b ht hz w
    · have e1 : doN 9 (W63 a) (W63 b) = 0 := by unfold doN; simp [ht]
      rw [e1]; exact Do9fb a b ht hz w
  · by_cases ht : W63 a = 0
    · have e1 : doN 9 (W63 a) (W63 b) = 1 := by unfold doN; simp [ht]
      rw [e1]; exact Do9ta a b ht hz w
    · have e1 : doN 9 (W63 a) (W63 b) = 0 := by unfold doN; simp [ht]
      rw [e1]; exact Do9fa a b ht hz w

set_option maxHeartbeats 1000000 in
theorem Do4 (a b : Int) (hz : W63 b ≠ 0) (w : World) :
    Calls Tryd.prog 23 #[.int .i64 4, .int .i64 a, .int .i64 b] w fun e w' => e = .returned (.tuple #[.int .i64 (W63 ((W63 a).tdiv (W63 b))), .int .i64 (0)]) ∧ Fr [] w w' := by
  have z1 : ((W63 b : Int) == 0) = false := beq_eq_false_iff_ne.2 hz
  have hb := heap_new w (.map opsES 9)
  have hl := run_lookup_hit Tryd.underlying51 Tryd.underlying3 (w.alloc (.map opsES 9)) w.heap.size opsES 9 hb 4 3 (.func (.func 48) #[] #[]) rfl
  clear hb
  go_enter Tryd.func23, Tryd.ntmps23
  go_wp2_with (first | (go_at_call 11; refine (Wrap_any _ _).mono ?_; rintro e w1 ⟨rfl, rfl⟩) | (go_at_call 34; refine (operations_any _).mono ?_; rintro e w1 ⟨rfl, rfl⟩) | (go_at_call 52; refine (truth_any _ _).mono ?_; rintro e w1 ⟨rfl, rfl⟩) | go_in)
  all_goals go_ret2
  all_goals exact ⟨ret_ints (by first | rfl | exact W63_wrap64 _) rfl, (Fr.refl [] w).alloc _⟩

set_option maxHeartbeats 1000000 in
theorem Do4z (a b : Int) (hz : W63 b = 0) (w : World) :
    Calls Tryd.prog 23 #[.int .i64 4, .int .i64 a, .int .i64 b] w fun e w' => e = .returned (.tuple #[.int .i64 (0), .int .i64 (2)]) ∧ Fr [] w w' := by
  have z1 : ((W63 b : Int) == 0) = true := beq_iff_eq.2 hz
  clear hz
  have hb := heap_new w (.map opsES 9)
  have hl := run_lookup_hit Tryd.underlying51 Tryd.underlying3 (w.alloc (.map opsES 9)) w.heap.size opsES 9 hb 4 3 (.func (.func 48) #[] #[]) rfl
  clear hb
  go_enter Tryd.func23, Tryd.ntmps23
  go_wp2_with (first | (go_at_call 11; refine (Wrap_any _ _).mono ?_; rintro e w1 ⟨rfl, rfl⟩) | (go_at_call 34; refine (operations_any _).mono ?_; rintro e w1 ⟨rfl, rfl⟩) | (go_at_call 52; refine (truth_any _ _).mono ?_; rintro e w1 ⟨rfl, rfl⟩) | go_in)
  all_goals go_ret2
  all_goals exact ⟨rfl, (Fr.refl [] w).alloc _⟩

set_option maxHeartbeats 1000000 in
theorem Do5 (a b : Int) (hz : W63 b ≠ 0) (w : World) :
    Calls Tryd.prog 23 #[.int .i64 5, .int .i64 a, .int .i64 b] w fun e w' => e = .returned (.tuple #[.int .i64 ((W63 a).tmod (W63 b)), .int .i64 (0)]) ∧ Fr [] w w' := by
  have z1 : ((W63 b : Int) == 0) = false := beq_eq_false_iff_ne.2 hz
  have tb := Lib.hid (tmod_bd (b := W63 b) (W63_ge a) (W63_le a))
  have hb := heap_new w (.map opsES 9)
  have hl := run_lookup_hit Tryd.underlying51 Tryd.underlying3 (w.alloc (.map opsES 9)) w.heap.size opsES 9 hb 5 4 (.func (.func 49) #[] #[]) rfl
  clear hb
  go_enter Tryd.func23, Tryd.ntmps23
  go_wp2_with (first | (go_at_call 11; refine (Wrap_any _ _).mono ?_; rintro e w1 ⟨rfl, rfl⟩) | (go_at_call 34; refine (operations_any _).mono ?_; rintro e w1 ⟨rfl, rfl⟩) | (go_at_call 52; refine (truth_any _ _).mono ?_; rintro e w1 ⟨rfl, rfl⟩) | go_in)
  all_goals go_ret2
  all_goals exact ⟨ret_ints (by exact W63_in tb.out.1 tb.out.2) rfl, (Fr.refl [] w).alloc _⟩

set_option maxHeartbeats 1000000 in
theorem Do5z (a b : Int) (hz : W63 b = 0) (w : World) :
    Calls Tryd.prog 23 #[.int .i64 5, .int .i64 a, .int .i64 b] w fun e w' => e = .returned (.tuple #[.int .i64 (0), .int .i64 (2)]) ∧ Fr [] w w' := by
  have z1 : ((W63 b : Int) == 0) = true := beq_iff_eq.2 hz
  clear hz
  have hb := heap_new w (.map opsES 9)
  have hl := run_lookup_hit Tryd.underlying51 Tryd.underlying3 (w.alloc (.map opsES 9)) w.heap.size opsES 9 hb 5 4 (.func (.func 49) #[] #[]) rfl
  clear hb
  go_enter Tryd.func23, Tryd.ntmps23
  go_wp2_with (first | (go_at_call 11; refine (Wrap_any _ _).mono ?_; rintro e w1 ⟨rfl, rfl⟩) | (go_at_call 34; refine (operations_any _).mono ?_; rintro e w1 ⟨rfl, rfl⟩) | (go_at_call 52; refine (truth_any _ _).mono ?_; rintro e w1 ⟨rfl, rfl⟩) | go_in)
  all_goals go_ret2
  all_goals exact ⟨rfl, (Fr.refl [] w).alloc _⟩

theorem opsES_miss (op : Int) (h : op < 1 ∨ 9 < op) : Instr.findNow (.int .i64) (.int .i64 op) opsES.toList 0 = some none := by
  have e : ∀ k : Int, 1 ≤ k → k ≤ 9 → (op == k) = false := fun k h1 h2 => beq_eq_false_iff_ne.2 (by omega)
  simp only [opsES, Instr.findNow, Instr.sameNow, if_true, e 1 (by omega) (by omega), e 2 (by omega) (by omega), e 3 (by omega) (by omega), e 4 (by omega) (by omega), e 5 (by omega) (by omega), e 6 (by omega) (by omega), e 7 (by omega) (by omega), e 8 (by omega) (by omega), e 9 (by omega) (by omega)]

set_option maxHeartbeats 1000000 in
theorem Do0 (op a b : Int) (h : op < 1 ∨ 9 < op) (w : World) :
    Calls Tryd.prog 23 #[.int .i64 op, .int .i64 a, .int .i64 b] w fun e w' => e = .returned (.tuple #[.int .i64 0, .int .i64 1]) ∧ Fr [] w w' := by
  have hl := run_lookup_miss Tryd.underlying51 Tryd.underlying3 (w.alloc (.map opsES 9)) w.heap.size opsES 9 (heap_new w (.map opsES 9)) op .nilFunc (opsES_miss op h) (zero_fn _)
  clear h
  go_enter Tryd.func23, Tryd.ntmps23
  go_wp2_with (first | (go_at_call 11; refine (Wrap_any _ _).mono ?_; rintro e w1 ⟨rfl, rfl⟩) | (go_at_call 34; refine (operations_any _).mono ?_; rintro e w1 ⟨rfl, rfl⟩) | (go_at_call 52; refine (truth_any _ _).mono ?_; rintro e w1 ⟨rfl, rfl⟩) | go_in)
  all_goals go_ret2
  all_goals exact ⟨rfl, (Fr.refl [] w).alloc _⟩

/-- word.Do, at every operation and any two numbers -/
theorem Do_any (op a b : Int) (w : World) :
    Calls Tryd.prog 23 #[.int .i64 op, .int .i64 a, .int .i64 b] w fun e w' => e = .returned (.tuple #[.int .i64 (doN op (W63 a) (W63 b)), .int .i64 (doE op (W63 b))]) ∧ Fr [] w w' := by
  by_cases h : op < 1 ∨ 9 < op
  · have e1 : doN op (W63 a) (W63 b) = 0 := by unfold doN; repeat rw [if_neg (by omega)]
    have e2 : doE op (W63 b) = 1 := by unfold doE; repeat rw [if_neg (by omega)]
    rw [e1, e2]
    exact Do0 op a b h w
  · have h' : op = 1 ∨ op = 2 ∨ op = 3 ∨ op = 4 ∨ op = 5 ∨ op = 6 ∨ op = 7 ∨ op = 8 ∨ op = 9 := by omega
    rcases h' with rfl | rfl | rfl | rfl | rfl | rfl | rfl | rfl | rfl
    · exact Do1 a b w
    · exact Do2 a b w
    · exact Do3 a b w
    · by_cases hz : W63 b = 0
      · have e1 : doN 4 (W63 a) (W63 b) = 0 := by simp [doN, hz]
        have e2 : doE 4 (W63 b) = 2 := by simp [doE, hz]
        rw [e1, e2]; exact Do4z a b hz w
      · have e1 : doN 4 (W63 a) (W63 b) = W63 ((W63 a).tdiv (W63 b)) := by simp [doN, hz]
        have e2 : doE 4 (W63 b) = 0 := by simp [doE, hz]
        rw [e1, e2]; exact Do4 a b hz w
    · by_cases hz : W63 b = 0
      · have e1 : doN 5 (W63 a) (W63 b) = 0 := by simp [doN, hz]
        have e2 : doE 5 (W63 b) = 2 := by simp [doE, hz]
        rw [e1, e2]; exact Do5z a b hz w
      · have e1 : doN 5 (W63 a) (W63 b) = (W63 a).tmod (W63 b) := by simp [doN, hz]
        have e2 : doE 5 (W63 b) = 0 := by simp [doE, hz]
        rw [e1, e2]; exact Do5 a b hz w
    · exact Do6 a b w
    · exact Do7 a b w
    · exact Do8 a b w
    · exact Do9 a b w

end Go.Proofs.YtbeekiclmfcohaaDoor
