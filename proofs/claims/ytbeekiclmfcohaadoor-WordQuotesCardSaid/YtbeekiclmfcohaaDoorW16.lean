/- Layer 1, walks: the laws that stand by themselves. -/
import Derived.Test.YtbeekiclmfcohaaDoorW14
import Derived.Test.YtbeekiclmfcohaaDoorWq
namespace Go.Proofs.YtbeekiclmfcohaaDoor
open Go.RowKit

theorem do_eq (r : Int) {op a b : Int} (h : doN op (W63 a) (W63 b) = r) (w : World) :
    Calls Tryd.prog 33 #[.int .i64 op, .int .i64 a, .int .i64 b] w fun e w' => e = .returned (.int .i64 r) ∧ Fr [] w w' := by
  rw [← h]
  exact do_any op a b w

set_option maxHeartbeats 1000000 in
set_option maxRecDepth 100000 in
theorem WordRing_walk (a b c : Int) (w : World) (hE : Env w) :
    Calls Tryd.prog 8 #[.int .i64 a, .int .i64 b, .int .i64 c] w fun e w' => e = .returned (.bool true) ∧ Fr [] w w' := by
  have c1 := fun w => Lib.hid (Wrap_any a w)
  have c2 := fun w => Lib.hid (Wrap_any b w)
  have c3 := fun w => Lib.hid (Wrap_any c w)
  go_enter Tryd.func8, Tryd.ntmps8
  go_wp2_with fail
  refine (awake_any _ hE).mono ?_; rintro e w1 ⟨rfl, h1⟩; go_wp2_with fail
  refine (c1 _).out.mono ?_; rintro e w2 ⟨rfl, rfl⟩; go_wp2_with fail
  refine (c2 _).out.mono ?_; rintro e w2 ⟨rfl, rfl⟩; go_wp2_with fail
  refine (c3 _).out.mono ?_; rintro e w2 ⟨rfl, rfl⟩; go_wp2_with fail
  have hf0 : Fr [] w (w1.alloc (.cells #[.int .i64 1, .int .i64 3] 3)) := h1.alloc _
  have hc0 : (w1.alloc (.cells #[.int .i64 1, .int .i64 3] 3)).heap[w1.heap.size]? = some (.cells #[.int .i64 1, .int .i64 3] 3) := Array.getElem?_push_size
  generalize (w1.alloc (.cells #[.int .i64 1, .int .i64 3] 3)) = w2 at *
  generalize w1.heap.size = B at *
  clear c1 c2 c3 h1
  have R1 := Lib.hid (ring_zero a)
  have R2 := Lib.hid (ring_one a)
  have R3 := Lib.hid (ring_neg a 0)
  have R4 := Lib.hid (ring_sub a b 0)
  have R5 := Lib.hid (ring_dist a b c)
  have R6 := fun op h => Lib.hid (ring_assoc op a b c h)
  have R7 := fun op h => Lib.hid (ring_comm op (W63 a) (W63 b) h)
  have I1 := Lib.hid (W63_idem a)
  have I2 := Lib.hid (W63_idem b)
  have I3 := Lib.hid (W63_idem c)
  generalize W63 a = A at *
  generalize W63 b = B' at *
  generalize W63 c = C at *
  go_loopw [19] (fun i wr => ∃ k : Nat, k ≤ 2 ∧ i = .int .i64 k ∧ Fr [] w2 wr) (fun i _ => 2 - (intOf i).toNat)
  case atStart => exact ⟨0, by omega, rfl, Fr.refl _ _⟩
  case round =>
    obtain ⟨k, hk, rfl, hf⟩ := hrel
    have hc := hf.keep hc0 (fun h => by cases h)
    clear hc0
    have g0 : wr.cell? ⟨B, 0, none⟩ = some (.int .i64 1) := cell_of hc 0
    have g1 : wr.cell? ⟨B, 1, none⟩ = some (.int .i64 3) := cell_of hc 1
    by_cases hlt : k < 2
    · obtain ⟨op, hop, hcell⟩ : ∃ op : Int, (op = 1 ∨ op = 3) ∧ wr.cell? ⟨B, k, none⟩ = some (.int .i64 op) := by
        match k, hlt with
        | 0, _ => exact ⟨1, .inl rfl, g0⟩
        | 1, _ => exact ⟨3, .inr rfl, g1⟩
      have A1 := R6 op hop
      have A2 := R7 op hop
      clear g0 g1 hop
      go_wp2_with fail
      refine (do_eq (doN op A B') (by rw [I1.out, I2.out]) _).mono ?_; rintro e x1 ⟨rfl, f1⟩; go_wp2_with fail
      refine (do_eq (doN op A B') (by rw [I1.out, I2.out, A2.out]) _).mono ?_; rintro e x2 ⟨rfl, f2⟩; go_wp2_with fail
      refine (do_eq (doN op B' C) (by rw [I2.out, I3.out]) _).mono ?_; rintro e x3 ⟨rfl, f3⟩; go_wp2_with fail
      refine (do_eq (doN op A (W63 (doN op B' C))) (by rw [I1.out]) _).mono ?_; rintro e x4 ⟨rfl, f4⟩; go_wp2_with fail
      refine (do_eq (doN op A B') (by rw [I1.out, I2.out]) _).mono ?_; rintro e x5 ⟨rfl, f5⟩; go_wp2_with fail
      refine (do_eq (doN op A (W63 (doN op B' C))) (by rw [I3.out, A1.out]) _).mono ?_; rintro e x6 ⟨rfl, f6⟩; go_wp2_with fail
      go_roundw
      case rel => exact ⟨k + 1, by omega, by go_num, (((((hf.trans f1).trans f2).trans f3).trans f4).trans f5).trans f6⟩
      case measure => simp [intOf]; omega
    · have hke : k = 2 := by omega
      subst hke
      go_wp2_with fail
      refine (do_eq A (by rw [I1.out, R1.out]) _).mono ?_; rintro e x1 ⟨rfl, f1⟩; go_wp2_with fail
      refine (do_eq A (by rw [I1.out, R2.out]) _).mono ?_; rintro e x2 ⟨rfl, f2⟩; go_wp2_with fail
      refine (do_eq (doN 6 A 0) (by rw [I1.out, do_neg, do_neg]) _).mono ?_; rintro e x3 ⟨rfl, f3⟩; go_wp2_with fail
      refine (do_eq 0 (by rw [I1.out, R3.out]) _).mono ?_; rintro e x4 ⟨rfl, f4⟩; go_wp2_with fail
      refine (do_eq (doN 2 A B') (by rw [I1.out, I2.out]) _).mono ?_; rintro e x5 ⟨rfl, f5⟩; go_wp2_with fail
      refine (do_eq (doN 6 B' 0) (by rw [I2.out, do_neg, do_neg]) _).mono ?_; rintro e x6 ⟨rfl, f6⟩; go_wp2_with fail
      refine (do_eq (doN 2 A B') (by rw [I1.out, R4.out]) _).mono ?_; rintro e x7 ⟨rfl, f7⟩; go_wp2_with fail
      refine (do_eq (doN 1 B' C) (by rw [I2.out, I3.out]) _).mono ?_; rintro e x8 ⟨rfl, f8⟩; go_wp2_with fail
      refine (do_eq (doN 3 A (W63 (doN 1 B' C))) (by rw [I1.out]) _).mono ?_; rintro e x9 ⟨rfl, f9⟩; go_wp2_with fail
      refine (do_eq (doN 3 A B') (by rw [I1.out, I2.out]) _).mono ?_; rintro e x10 ⟨rfl, f10⟩; go_wp2_with fail
      refine (do_eq (doN 3 A C) (by rw [I1.out, I3.out]) _).mono ?_; rintro e x11 ⟨rfl, f11⟩; go_wp2_with fail
      refine (do_eq (doN 3 A (W63 (doN 1 B' C))) (by rw [R5.out]) _).mono ?_; rintro e x12 ⟨rfl, f12⟩; go_wp2_with fail
      go_ret
      exact ⟨rfl, (((((((((((((hf0.trans hf).trans f1).trans f2).trans f3).trans f4).trans f5).trans f6).trans f7).trans f8).trans f9).trans f10).trans f11).trans f12)⟩

theorem divides_plain (A B : Int) (a0 : -4611686018427387904 ≤ A) (a1 : A ≤ 4611686018427387903) (b0 : -4611686018427387904 ≤ B) (b1 : B ≤ 4611686018427387903) (hB : B ≠ 0) :
    ∃ q r, doN 4 A B = q ∧ doN 5 A B = r ∧ doN 1 (W63 (doN 3 (W63 q) (W63 B))) (W63 r) = A ∧ (0 < B → r < B ∧ 0 - B < r) ∧ (B < 0 → B < r ∧ r < 0 - B) ∧ (0 ≤ r ∨ A < 0) ∧ (r ≤ 0 ∨ 0 < A) := by
  refine ⟨W63 (A.tdiv B), A.tmod B, ?_, ?_, ?_, ?_, ?_, ?_, ?_⟩
  · unfold doN; rw [if_neg (by omega), if_neg (by omega), if_neg (by omega), if_pos rfl, if_neg hB]
  · unfold doN; rw [if_neg (by omega), if_neg (by omega), if_neg (by omega), if_neg (by omega), if_pos rfl, if_neg hB]
  · rw [do_mul, do_add, W63_idem, W63_idem, W63_add]
    rw [← W63_addL, W63_mul, W63_addL, Int.mul_comm (A.tdiv B) B, Int.mul_tdiv_add_tmod]
    exact W63_in a0 a1
  · intro h
    have := Int.natAbs_tmod A B
    have h2 := Nat.mod_lt A.natAbs (show 0 < B.natAbs by omega)
    omega
  · intro h
    have := Int.natAbs_tmod A B
    have h2 := Nat.mod_lt A.natAbs (show 0 < B.natAbs by omega)
    omega
  · rcases Int.lt_or_le A 0 with h | h
    · exact .inr h
    · exact .inl (Int.tmod_nonneg _ h)
  · rcases Int.lt_or_le 0 A with h | h
    · exact .inr h
    · left
      have e : A.tmod B = -((-A).tmod B) := by rw [Int.neg_tmod, Int.neg_neg]
      have := Int.tmod_nonneg (a := -A) B (by omega)
      omega
theorem Do_eq (q e : Int) {op a b : Int} (h : doN op (W63 a) (W63 b) = q) (he : doE op (W63 b) = e) (w : World) :
    Calls Tryd.prog 23 #[.int .i64 op, .int .i64 a, .int .i64 b] w fun x w' => x = .returned (.tuple #[.int .i64 q, .int .i64 e]) ∧ Fr [] w w' := by
  rw [← h, ← he]
  exact Do_any op a b w

set_option maxHeartbeats 1000000 in
set_option maxRecDepth 100000 in
theorem WordDivides_walk (a b : Int) (w : World) (hE : Env w) :
    Calls Tryd.prog 9 #[.int .i64 a, .int .i64 b] w fun e w' => e = .returned (.bool true) ∧ Fr [] w w' := by
  have c1 := fun w => Lib.hid (Wrap_any a w)
  have c2 := fun w => Lib.hid (Wrap_any b w)
  have a0 := W63_ge a
  have a1 := W63_le a
  have b0 := W63_ge b
  have b1 := W63_le b
  have I1 := Lib.hid (W63_idem a)
  have I2 := Lib.hid (W63_idem b)
  generalize W63 a = A at *
  generalize W63 b = B at *
  by_cases hB : B = 0
  · subst hB
    have E4 := Lib.hid (show doE 4 0 = 2 by unfold doE; decide)
    have E5 := Lib.hid (show doE 5 0 = 2 by unfold doE; decide)
    clear a0 a1 b0 b1
    go_enter Tryd.func9, Tryd.ntmps9
    go_wp2_with fail
    refine (awake_any _ hE).mono ?_; rintro e w1 ⟨rfl, h1⟩; go_wp2_with fail
    refine (c1 _).out.mono ?_; rintro e w2 ⟨rfl, rfl⟩; go_wp2_with fail
    refine (c2 _).out.mono ?_; rintro e w2 ⟨rfl, rfl⟩; go_wp2_with fail
    refine (Do_eq _ 2 rfl (by rw [I2.out, E4.out]) _).mono ?_; rintro e w2 ⟨rfl, h2⟩; go_wp2_with fail
    refine (Do_eq _ 2 rfl (by rw [I2.out, E5.out]) _).mono ?_; rintro e w3 ⟨rfl, h3⟩; go_wp2_with fail
    go_ret
    exact ⟨rfl, (h1.trans h2).trans h3⟩
  · obtain ⟨q, r, hq, hr, hA, s1, s2, s3, s4⟩ := divides_plain A B a0 a1 b0 b1 hB
    have Q := Lib.hid hq
    have R := Lib.hid hr
    have HA := Lib.hid hA
    have E4 := Lib.hid (show doE 4 B = 0 by unfold doE; rw [if_pos (by omega), if_neg hB])
    have E5 := Lib.hid (show doE 5 B = 0 by unfold doE; rw [if_pos (by omega), if_neg hB])
    have nb : (B == 0) = false := by rw [beq_eq_false_iff_ne]; exact hB
    have k3 : decide (0 ≤ r) = true ∨ (decide (0 ≤ r) = false ∧ decide (A < 0) = true) := by
      by_cases h : 0 ≤ r
      · exact .inl (decide_eq_true h)
      · exact .inr ⟨decide_eq_false h, decide_eq_true (s3.resolve_left h)⟩
    have k4 : decide (r ≤ 0) = true ∨ (decide (r ≤ 0) = false ∧ decide (0 < A) = true) := by
      by_cases h : r ≤ 0
      · exact .inl (decide_eq_true h)
      · exact .inr ⟨decide_eq_false h, decide_eq_true (s4.resolve_left h)⟩
    have v : wrap64 (0 - B) = 0 - B := by unfold wrap64; omega
    rcases Int.lt_or_lt_of_ne hB with hs | hs
    · obtain ⟨t1, t2⟩ := s2 hs
      have d0 : decide (r < B) = false := decide_eq_false (by omega)
      have d1 : decide (B < 0) = true := decide_eq_true hs
      have d2 : decide (B < r) = true := decide_eq_true t1
      have d3 : decide (r < 0 - B) = true := decide_eq_true t2
      clear s1 s2 s3 s4 hq hr hA
      rcases k3 with k3 | ⟨k3, k3'⟩
      all_goals rcases k4 with k4 | ⟨k4, k4'⟩
      all_goals
        go_enter Tryd.func9, Tryd.ntmps9
        go_wp2_with fail
        refine (awake_any _ hE).mono ?_; rintro e w1 ⟨rfl, h1⟩; go_wp2_with fail
        refine (c1 _).out.mono ?_; rintro e w2 ⟨rfl, rfl⟩; go_wp2_with fail
        refine (c2 _).out.mono ?_; rintro e w2 ⟨rfl, rfl⟩; go_wp2_with fail
        refine (Do_eq q 0 (by rw [I1.out, I2.out, Q.out]) (by rw [I2.out, E4.out]) _).mono ?_; rintro e w2 ⟨rfl, h2⟩; go_wp2_with fail
        refine (Do_eq r 0 (by rw [I1.out, I2.out, R.out]) (by rw [I2.out, E5.out]) _).mono ?_; rintro e w3 ⟨rfl, h3⟩; go_wp2_with fail
        refine (do_eq _ rfl _).mono ?_; rintro e w4 ⟨rfl, h4⟩; go_wp2_with fail
        refine (do_eq A HA.out _).mono ?_; rintro e w5 ⟨rfl, h5⟩; go_wp2_with fail
        go_ret
        exact ⟨rfl, (((h1.trans h2).trans h3).trans h4).trans h5⟩
    · obtain ⟨t1, t2⟩ := s1 hs
      have d0 : decide (r < B) = true := decide_eq_true t1
      have d1 : decide (B < 0) = false := decide_eq_false (by omega)
      have d2 : decide (0 - B < r) = true := decide_eq_true t2
      clear s1 s2 s3 s4 hq hr hA
      rcases k3 with k3 | ⟨k3, k3'⟩
      all_goals rcases k4 with k4 | ⟨k4, k4'⟩
      all_goals
        go_enter Tryd.func9, Tryd.ntmps9
        go_wp2_with fail
        refine (awake_any _ hE).mono ?_; rintro e w1 ⟨rfl, h1⟩; go_wp2_with fail
        refine (c1 _).out.mono ?_; rintro e w2 ⟨rfl, rfl⟩; go_wp2_with fail
        refine (c2 _).out.mono ?_; rintro e w2 ⟨rfl, rfl⟩; go_wp2_with fail
        refine (Do_eq q 0 (by rw [I1.out, I2.out, Q.out]) (by rw [I2.out, E4.out]) _).mono ?_; rintro e w2 ⟨rfl, h2⟩; go_wp2_with fail
        refine (Do_eq r 0 (by rw [I1.out, I2.out, R.out]) (by rw [I2.out, E5.out]) _).mono ?_; rintro e w3 ⟨rfl, h3⟩; go_wp2_with fail
        refine (do_eq _ rfl _).mono ?_; rintro e w4 ⟨rfl, h4⟩; go_wp2_with fail
        refine (do_eq A HA.out _).mono ?_; rintro e w5 ⟨rfl, h5⟩; go_wp2_with fail
        go_ret
        exact ⟨rfl, (((h1.trans h2).trans h3).trans h4).trans h5⟩

theorem Unq_quoted (l : List UInt8) (hl : (quoteL l).length ≤ 16777216) (w : World) :
    Calls Tryd.prog 29 #[.string ⟨(quoteL l).toArray⟩] w fun e w' => e = .returned (.tuple #[.string ⟨l.toArray⟩, .int .i64 0]) ∧ Fr [] w w' := by
  have h := Unquote_any ⟨(quoteL l).toArray⟩ hl w
  obtain ⟨e1, e2⟩ := unq_s (show unq (ByteArray.mk (quoteL l).toArray).data.toList = some l from unq_quote l)
  rw [e1, e2] at h
  exact h
theorem Num_at (n : Int) (w : World) : Calls Tryd.prog 15 #[.int .u64 (ofN (W63 n))] w fun e w' => e = .returned (.int .i64 (W63 n)) ∧ w = w' := by
  have h := Num_any (ofN (W63 n)) (of_bd _).1 (of_bd _).2 w
  rw [num_of, W63_idem] at h
  exact h
theorem IsNum_at (n : Int) (w : World) : Calls Tryd.prog 17 #[.int .u64 (ofN n)] w fun e w' => e = .returned (.bool true) ∧ w = w' := by
  have h := IsNum_any (ofN n) (of_bd _).1 (of_bd _).2 w
  rw [isN_of] at h
  exact h
theorem IsRef_at (a : Int) (w : World) : Calls Tryd.prog 17 #[.int .u64 (refN a)] w fun e w' => e = .returned (.bool false) ∧ w = w' := by
  have h := IsNum_any (refN a) (ref_bd _).1 (ref_bd _).2 w
  rw [isN_ref] at h
  exact h
theorem Addr_at (a : Int) (h0 : 0 ≤ a) (h1 : a ≤ 2147483647) (w : World) : Calls Tryd.prog 21 #[.int .u64 (refN a)] w fun e w' => e = .returned (.int .i64 a) ∧ w = w' := by
  have h := Addr_any (refN a) (ref_bd _).1 (ref_bd _).2 w
  rw [addr_ref a h0 h1] at h
  exact h

set_option maxHeartbeats 1000000 in
set_option maxRecDepth 100000 in
theorem WordBack_walk (n a : Int) (s : ByteArray) (w : World) (hE : Env w) :
    Calls Tryd.prog 7 #[.int .i64 n, .int .i64 a, .string s] w fun e w' => e = .returned (.bool true) ∧ Fr [] w w' := by
  by_cases hs : 65536 < (s.size : Int)
  · go_enter Tryd.func7, Tryd.ntmps7
    go_wp2_with fail
    refine (awake_any _ hE).mono ?_; rintro e w1 ⟨rfl, h1⟩; go_wp2_with fail
    go_ret
    exact ⟨rfl, h1⟩
  · have c1 := fun w => Lib.hid (Wrap_any n w)
    have c2 := fun w => Lib.hid (Quote_any s (by omega) w)
    have hql := quotes_len s.data.toList
    rw [size_list] at hql
    have c3 := fun w => Lib.hid (Unq_quoted s.data.toList (by simp only [quoteL, List.length_cons, List.length_append, List.length_nil]; omega) w)
    have c4 := fun w => Lib.hid (Of_any (W63 n) w)
    have c5 := fun w => Lib.hid (Num_at n w)
    have hm := and31 a
    have c6 := fun w => Lib.hid (Ref_any (bits .and .i64 a 2147483647) w)
    have c7 := fun w => Lib.hid (Addr_at (bits .and .i64 a 2147483647) (by omega) (by omega) w)
    have c8 := fun w => Lib.hid (IsRef_at (bits .and .i64 a 2147483647) w)
    have c9 := fun w => Lib.hid (IsNum_at (W63 n) w)
    clear hm
    go_enter Tryd.func7, Tryd.ntmps7
    go_wp2_with fail
    refine (awake_any _ hE).mono ?_; rintro e w1 ⟨rfl, h1⟩; go_wp2_with fail
    refine (c1 _).out.mono ?_; rintro e w2 ⟨rfl, rfl⟩; go_wp2_with fail
    refine (c2 _).out.mono ?_; rintro e w2 ⟨rfl, h2⟩; go_wp2_with fail
    refine (c3 _).out.mono ?_; rintro e w3 ⟨rfl, h3⟩; go_wp2_with fail
    refine (c4 _).out.mono ?_; rintro e w4 ⟨rfl, rfl⟩; go_wp2_with fail
    refine (c5 _).out.mono ?_; rintro e w4 ⟨rfl, rfl⟩; go_wp2_with fail
    refine (c6 _).out.mono ?_; rintro e w4 ⟨rfl, rfl⟩; go_wp2_with fail
    refine (c7 _).out.mono ?_; rintro e w4 ⟨rfl, rfl⟩; go_wp2_with fail
    refine (c6 _).out.mono ?_; rintro e w4 ⟨rfl, rfl⟩; go_wp2_with fail
    refine (c8 _).out.mono ?_; rintro e w4 ⟨rfl, rfl⟩; go_wp2_with fail
    refine (c4 _).out.mono ?_; rintro e w4 ⟨rfl, rfl⟩; go_wp2_with fail
    refine (c9 _).out.mono ?_; rintro e w4 ⟨rfl, rfl⟩
    have hE3 := ((hE.fr h1).fr h2).fr h3
    have n0 := W63_ge n
    have n1 := W63_le n
    by_cases hn : W63 n < 0
    · obtain ⟨l, hl⟩ : ∃ l, Lib.itoa (W63 n) = 45 :: l := by
        have := itoa_head hn
        cases e : Lib.itoa (W63 n) with
        | nil => rw [e] at this; cases this
        | cons y r => rw [e] at this; simp at this; exact ⟨r, by rw [this]⟩
      have c10 := fun w hE => Text_any (W63 n) (by omega) (by omega) w hE
      rw [hl] at c10
      have C10 := Lib.hid c10
      have dn : decide (W63 n < 0) = true := decide_eq_true hn
      clear n0 n1 hl c10
      go_wp2_with fail
      refine (C10.out _ hE3).mono ?_; rintro e w5 ⟨rfl, h5⟩; go_wp2_with fail
      go_ret
      exact ⟨rfl, ((h1.trans h2).trans h3).trans h5⟩
    · have c10 := fun w hE => Lib.hid (Text_any (W63 n) (by omega) (by omega) w hE)
      obtain ⟨e1, e2⟩ := read_itoa (n := W63 n) (by omega) n1
      have c11 := fun w hE => Read_any ⟨(Lib.itoa (W63 n)).toArray⟩ (by show (Lib.itoa (W63 n)).length ≤ 281474976710656; have := Lib.itoa_length_le (W63 n) (by omega) (by omega); omega) w hE
      rw [show (ByteArray.mk (Lib.itoa (W63 n)).toArray).data.toList = Lib.itoa (W63 n) from rfl, e1, e2] at c11
      have C11 := Lib.hid c11
      have dn : decide (W63 n < 0) = false := decide_eq_false hn
      clear n0 n1 e1 e2 c11
      go_wp2_with fail
      refine (c10 _ hE3).out.mono ?_; rintro e w5 ⟨rfl, h5⟩; go_wp2_with fail
      refine (C11.out _ (hE3.fr h5)).mono ?_; rintro e w6 ⟨rfl, h6⟩; go_wp2_with fail
      go_ret
      exact ⟨by simp, (((h1.trans h2).trans h3).trans h5).trans h6⟩
end Go.Proofs.YtbeekiclmfcohaaDoor
