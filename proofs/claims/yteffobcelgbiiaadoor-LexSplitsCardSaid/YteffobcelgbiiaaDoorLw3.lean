/- Layer 5, walks: the law LexSplits. -/
import Derived.Test.YteffobcelgbiiaaDoorLw
import Derived.IntWalk
namespace Go.Proofs.YteffobcelgbiiaaDoor
open Go.RowKit

theorem split_list (a b : ByteArray) : (a ++ ⟨#[32]⟩ ++ b).data.toList = a.data.toList ++ 32 :: b.data.toList := by
  simp [ByteArray.data_append]
theorem split_size (a b : ByteArray) : (a ++ ⟨#[32]⟩ ++ b).size = a.size + 1 + b.size := by
  rw [← size_list, split_list, List.length_append, List.length_cons, size_list, size_list]; omega
theorem split_lex {a b : List UInt8} {xs ys : List Tok} (ha : lexOf a = .ok xs) (hb : lexOf b = .ok ys) (hl : a.length + 1 + b.length ≤ 4096) :
    lexOf (a ++ 32 :: b) = .ok (xs.dropLast ++ ys.map (shiftT (a.length + 1))) := by
  have h1 := (lexOf_ok ha).2.1
  have h2 := (lexOf_ok hb).2.1
  have hlen : (a ++ 32 :: b).length = a.length + 1 + b.length := by rw [List.length_append, List.length_cons]; omega
  have h3 := lexL_app 32 (by rfl) b a.length 0 a xs (Nat.le_refl _) h1 (a ++ 32 :: b).length (by omega)
  have h4 := lexL_shift (a.length + 1) b.length 0 b
  rw [h2] at h4
  rw [show 0 + a.length + 1 = 0 + (a.length + 1) by omega, h4] at h3
  unfold lexOf
  rw [if_neg (by omega), h3]
  rfl

set_option maxHeartbeats 1000000 in
set_option maxRecDepth 100000 in
theorem LexSplits_bad (a b : ByteArray) (ha : a.size ≤ 140737488355328) (hb : b.size ≤ 140737488355328) (w : World) (hE : EnvL w)
    (h : (∃ x, lexOf a.data.toList = .error x) ∨ (∃ x, lexOf b.data.toList = .error x)) :
    Calls Tryd.prog 7 #[.string a, .string b] w fun e w' => e = .returned (.bool true) ∧ Fr [] w w' := by
  have c1 := fun w hE => Lib.hid (Lex_f a (by omega) w hE)
  have c2 := fun w hE => Lib.hid (Lex_f b (by omega) w hE)
  have c3 := fun w hE => Lib.hid (Lex_f (a ++ ⟨#[32]⟩ ++ b) (by rw [split_size]; omega) w hE)
  have key : ∃ v1 v2 v3 : Value × Int × Nat, True := ⟨(.bool true, 0, 0), (.bool true, 0, 0), (.bool true, 0, 0), trivial⟩
  clear key
  have n1 : ∀ er p, lexOf a.data.toList = .error (er, p) → ¬ er = 0 := fun er p h => by rcases lexOf_err h with h | h <;> omega
  have n2 : ∀ er p, lexOf b.data.toList = .error (er, p) → ¬ er = 0 := fun er p h => by rcases lexOf_err h with h | h <;> omega
  cases h1 : lexOf a.data.toList with
  | error x =>
    obtain ⟨er, p⟩ := x
    have her := n1 _ _ h1
    rw [h1] at c1
    clear n1 n2 h h1
    cases h2 : lexOf b.data.toList <;> cases h3 : lexOf (a ++ ⟨#[32]⟩ ++ b).data.toList
    all_goals
      rw [h2] at c2
      rw [h3] at c3
      clear h2 h3
      go_enter Tryd.func7, Tryd.ntmps7
      go_wp2_with fail
      refine (awake5_any _ hE).mono ?_; rintro e w1 ⟨rfl, f1⟩; go_wp2_with fail
      refine (c1 _ (hE.fr f1)).out.mono ?_; rintro e w2 ⟨he, f2⟩; obtain rfl := (show e = _ from he); go_wp2_with fail
      refine (c2 _ ((hE.fr f1).fr f2)).out.mono ?_; rintro e w3 ⟨he, f3⟩
      first | (obtain ⟨_, _, rfl, _, _⟩ := he) | (obtain rfl := (show e = _ from he))
      go_wp2_with fail
      refine (c3 _ (((hE.fr f1).fr f2).fr f3)).out.mono ?_; rintro e w4 ⟨he, f4⟩
      first | (obtain ⟨_, _, rfl, _, _⟩ := he) | (obtain rfl := (show e = _ from he))
      go_wp2_with fail
      go_ret
      exact ⟨rfl, ((f1.trans f2).trans f3).trans f4⟩
  | ok xs =>
    cases h2 : lexOf b.data.toList with
    | ok ys => rcases h with ⟨x, hx⟩ | ⟨x, hx⟩
               · rw [h1] at hx; cases hx
               · rw [h2] at hx; cases hx
    | error x =>
      obtain ⟨er, p⟩ := x
      have her := n2 _ _ h2
      rw [h1] at c1
      rw [h2] at c2
      clear n1 n2 h h1 h2
      cases h3 : lexOf (a ++ ⟨#[32]⟩ ++ b).data.toList
      all_goals
        rw [h3] at c3
        clear h3
        go_enter Tryd.func7, Tryd.ntmps7
        go_wp2_with fail
        refine (awake5_any _ hE).mono ?_; rintro e w1 ⟨rfl, f1⟩; go_wp2_with fail
        refine (c1 _ (hE.fr f1)).out.mono ?_; rintro e w2 ⟨⟨_, _, rfl, _, _⟩, f2⟩; go_wp2_with fail
        refine (c2 _ ((hE.fr f1).fr f2)).out.mono ?_; rintro e w3 ⟨he, f3⟩; obtain rfl := (show e = _ from he); go_wp2_with fail
        refine (c3 _ (((hE.fr f1).fr f2).fr f3)).out.mono ?_; rintro e w4 ⟨he, f4⟩
        first | (obtain ⟨_, _, rfl, _, _⟩ := he) | (obtain rfl := (show e = _ from he))
        go_wp2_with fail
        go_ret
        exact ⟨rfl, ((f1.trans f2).trans f3).trans f4⟩

set_option maxHeartbeats 1000000 in
set_option maxRecDepth 100000 in
theorem LexSplits_good (a b : ByteArray) {xs ys : List Tok} (h1 : lexOf a.data.toList = .ok xs) (h2 : lexOf b.data.toList = .ok ys) (w : World) (hE : EnvL w) :
    Calls Tryd.prog 7 #[.string a, .string b] w fun e w' => e = .returned (.bool true) ∧ Fr [] w w' := by
  obtain ⟨ha, _, hxl, hbx, zx, hzx, _⟩ := lexOf_ok h1
  obtain ⟨hb, _, hyl, hby, zy, hzy, _⟩ := lexOf_ok h2
  rw [size_list] at ha hb
  have hx1 : 1 ≤ xs.length := by rw [hzx]; simp
  have hy1 : 1 ≤ ys.length := by rw [hzy]; simp
  have c1 := fun w hE => Lib.hid (Lex_ok a (by omega) h1 w hE)
  have c2 := fun w hE => Lib.hid (Lex_ok b (by omega) h2 w hE)
  clear hzx hzy
  by_cases hbig : a.size + 1 + b.size ≤ 4096
  · have h3 := split_lex h1 h2 (by rw [size_list, size_list]; exact hbig)
    rw [← split_list, size_list] at h3
    have c3 := fun w hE => Lib.hid (Lex_ok (a ++ ⟨#[32]⟩ ++ b) (by rw [split_size]; omega) h3 w hE)
    have hzl : (xs.dropLast ++ ys.map (shiftT (a.size + 1))).length = xs.length - 1 + ys.length := by rw [List.length_append, List.length_dropLast, List.length_map]
    rw [hzl] at c3
    have hz1 : ∀ k, k < xs.length - 1 → (xs.dropLast ++ ys.map (shiftT (a.size + 1)))[k]? = xs[k]? := fun k hk => by
      rw [List.getElem?_append_left (by rw [List.length_dropLast]; exact hk), List.getElem?_dropLast, if_pos hk]
    have hz2 : ∀ k (t : Tok), ys[k]? = some t → (xs.dropLast ++ ys.map (shiftT (a.size + 1)))[xs.length - 1 + k]? = some (shiftT (a.size + 1) t) := fun k t ht => by
      rw [List.getElem?_append_right (by rw [List.length_dropLast]; omega), List.length_dropLast, Nat.add_sub_cancel_left, List.getElem?_map, ht]; rfl
    have HZ1 := Lib.hid hz1
    have HZ2 := Lib.hid hz2
    have HBX := Lib.hid hbx
    have HBY := Lib.hid hby
    clear h1 h2 h3 hzl hz1 hz2 hbx hby
    generalize xs.dropLast ++ ys.map (shiftT (a.size + 1)) = zs at *
    go_enter Tryd.func7, Tryd.ntmps7
    go_wp2_with fail
    refine (awake5_any _ hE).mono ?_; rintro e w1 ⟨rfl, f1⟩; go_wp2_with fail
    refine (c1 _ (hE.fr f1)).out.mono ?_; rintro e w2 ⟨⟨g1, d1, rfl, hg1, hR1⟩, f2⟩; go_wp2_with fail
    refine (c2 _ ((hE.fr f1).fr f2)).out.mono ?_; rintro e w3 ⟨⟨g2, d2, rfl, hg2, hR2⟩, f3⟩; go_wp2_with fail
    refine (c3 _ (((hE.fr f1).fr f2).fr f3)).out.mono ?_; rintro e w4 ⟨⟨g3, d3, rfl, hg3, hR3⟩, f4⟩
    have hR1 := (hR1.fr f3 hg1).fr f4 (Nat.lt_of_lt_of_le hg1 f3.size)
    have hR2 := hR2.fr f4 hg2
    have hg1 := Nat.lt_of_lt_of_le (Nat.lt_of_lt_of_le hg1 f3.size) f4.size
    have hg2 := Nat.lt_of_lt_of_le hg2 f4.size
    have f14 := ((f1.trans f2).trans f3).trans f4
    clear f1 f2 f3 f4 c1 c2 c3
    have i1 : ((xs.length - 1 + ys.length : Nat) : Int) = (xs.length : Int) + (ys.length : Int) - 1 := by omega
    have i2 : (((xs.length - 1 + ys.length : Nat) : Int) != (xs.length : Int) + (ys.length : Int) - 1) = false := by rw [i1]; simp
    clear i1
    go_wp2_with fail
    go_loopw [14] (fun i wr => ∃ k : Nat, i = .int .i64 k ∧ k ≤ xs.length - 1 ∧ ∃ n, wr = w4.drewN n) (fun i _ => xs.length - (intOf i).toNat)
    case atStart => exact ⟨0, rfl, by omega, 0, rfl⟩
    case round =>
      obtain ⟨k, rfl, hk, nd, rfl⟩ := hrel
      by_cases hlt : k < xs.length - 1
      · have ht : xs[k]? = some xs[k] := List.getElem?_eq_getElem (by omega)
        have hz := (HZ1.out k hlt).trans ht
        have a0 := hR1.c0 k _ ht
        have a1 := hR1.c1 k _ ht
        have a2 := hR1.c2 k _ ht
        have a3 := hR1.c3 k _ ht
        have b0 := hR3.c0 k _ hz
        have b1 := hR3.c1 k _ hz
        have b2 := hR3.c2 k _ hz
        have b3 := hR3.c3 k _ hz
        clear ht hz
        generalize xs[k] = t at *
        obtain ⟨tk, ta, tt, tn⟩ := t
        simp only at a0 a1 a2 a3 b0 b1 b2 b3
        go_wp2_with fail
        go_quiet (fail)
        go_wp2_with fail
        go_roundw
        case rel => exact ⟨k + 1, by go_num, by omega, _, rfl⟩
        case measure => simp [intOf]; omega
      · go_wp2_with fail
        go_loopw [86] (fun i wr => ∃ k : Nat, i = .int .i64 k ∧ k ≤ ys.length ∧ Fr [] w4 wr) (fun i _ => ys.length - (intOf i).toNat)
        case atStart => exact ⟨0, rfl, by omega, (Fr.refl [] w4).drewN _⟩
        case round =>
          obtain ⟨k, rfl, hk, fr⟩ := hrel
          by_cases hlt : k < ys.length
          · have ht : ys[k]? = some ys[k] := List.getElem?_eq_getElem (by omega)
            have hz := HZ2.out k _ ht
            have hR2 := hR2.fr fr hg2
            have hR3 := hR3.fr fr hg3
            have hbt := HBY.out _ (List.getElem_mem hlt)
            have a0 := hR2.c0 k _ ht
            have a1 := hR2.c1 k _ ht
            have a2 := hR2.c2 k _ ht
            have a3 := hR2.c3 k _ ht
            have b0 := hR3.c0 _ _ hz
            have b1 := hR3.c1 _ _ hz
            have b2 := hR3.c2 _ _ hz
            have b3 := hR3.c3 _ _ hz
            have hta := hbt.a
            have hgs2 := Nat.lt_of_lt_of_le hg2 fr.size
            have hgs3 := Nat.lt_of_lt_of_le hg3 fr.size
            clear ht hz hR2 hR3 hbt
            generalize ys[k] = t at *
            obtain ⟨tk, ta, tt, tn⟩ := t
            simp only [shiftT] at a0 a1 a2 a3 b0 b1 b2 b3 hta
            rw [show ((ta + (a.size + 1) : Nat) : Int) = (ta : Int) + ((a.size : Int) + 1) by omega] at b1
            go_wp2_with fail
            have q1 : IntKind.i64.wrap ((xs.length : Int) - 1) = (xs.length : Int) - 1 := IntWalk.i64_in _ (by omega)
            have q2 : IntKind.i64.wrap ((xs.length : Int) - 1 + (k : Int)) = (xs.length : Int) - 1 + (k : Int) := IntWalk.i64_in _ (by omega)
            have q3 : ((xs.length : Int) - 1 + (k : Int)).toNat = xs.length - 1 + k := by omega
            go_quiet (fail)
            clear q1 q2 q3
            go_wp2_with fail
            go_roundw
            case rel => exact ⟨k + 1, by go_num, by omega, (fr.alloc _).drewN _⟩
            case measure => simp [intOf]; omega
          · go_wp2_with fail
            go_ret
            exact ⟨rfl, f14.trans fr⟩
  · have h3 : lexOf (a ++ ⟨#[32]⟩ ++ b).data.toList = .error (4, 0) := by
      unfold lexOf
      rw [if_pos (by rw [size_list, split_size]; omega)]
    have c3 := fun w hE => Lib.hid (Lex_er (a ++ ⟨#[32]⟩ ++ b) (by rw [split_size]; omega) h3 w hE)
    clear h1 h2 h3 hbx hby
    go_enter Tryd.func7, Tryd.ntmps7
    go_wp2_with fail
    refine (awake5_any _ hE).mono ?_; rintro e w1 ⟨rfl, f1⟩; go_wp2_with fail
    refine (c1 _ (hE.fr f1)).out.mono ?_; rintro e w2 ⟨⟨g1, d1, rfl, hg1, hR1⟩, f2⟩; go_wp2_with fail
    refine (c2 _ ((hE.fr f1).fr f2)).out.mono ?_; rintro e w3 ⟨⟨g2, d2, rfl, hg2, hR2⟩, f3⟩; go_wp2_with fail
    refine (c3 _ (((hE.fr f1).fr f2).fr f3)).out.mono ?_; rintro e w4 ⟨rfl, f4⟩; go_wp2_with fail
    go_ret
    exact ⟨rfl, ((f1.trans f2).trans f3).trans f4⟩

theorem LexSplits_walk (a b : ByteArray) (ha : a.size ≤ 140737488355328) (hb : b.size ≤ 140737488355328) (w : World) (hE : EnvL w) :
    Calls Tryd.prog 7 #[.string a, .string b] w fun e w' => e = .returned (.bool true) ∧ Fr [] w w' := by
  cases h1 : lexOf a.data.toList with
  | error x => exact LexSplits_bad a b ha hb w hE (.inl ⟨x, h1⟩)
  | ok xs => cases h2 : lexOf b.data.toList with
    | error x => exact LexSplits_bad a b ha hb w hE (.inr ⟨x, h2⟩)
    | ok ys => exact LexSplits_good a b h1 h2 w hE
end Go.Proofs.YteffobcelgbiiaaDoor
