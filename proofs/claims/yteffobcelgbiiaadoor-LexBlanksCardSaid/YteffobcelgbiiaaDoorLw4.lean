/- Layer 5, walks: the law LexBlanks. -/
import Derived.Test.YteffobcelgbiiaaDoorLw
import Derived.IntWalk
namespace Go.Proofs.YteffobcelgbiiaaDoor
open Go.RowKit

def preL : Nat → List UInt8
  | 0 => []
  | k + 1 => (if k % 2 = 0 then 10 else 32) :: preL k
theorem preL_len : ∀ k, (preL k).length = k
  | 0 => rfl
  | k + 1 => by rw [preL, List.length_cons, preL_len k]
theorem preL_blank : ∀ k, ∀ x ∈ preL k, blankB x = true
  | 0, x, h => by cases h
  | k + 1, x, h => by
    rw [preL] at h
    rcases List.mem_cons.1 h with rfl | h
    · split <;> rfl
    · exact preL_blank k x h
def ownL (n m : Nat) (s : List UInt8) : List UInt8 := preL n ++ s ++ List.replicate m 32
theorem ownL_len (n m : Nat) (s : List UInt8) : (ownL n m s).length = n + s.length + m := by
  unfold ownL; rw [List.length_append, List.length_append, preL_len, List.length_replicate]
def moveT (n m : Nat) (t : Tok) : Tok := ⟨t.k, if t.k = 0 then t.at' + n + m else t.at' + n, t.text, t.n⟩
theorem own_err {s : List UInt8} {n m : Nat} {er : Int} {p : Nat} (h : lexOf s = .error (er, p)) (hl : (ownL n m s).length ≤ 4096) : lexOf (ownL n m s) = .error (er, p + n) := by
  rcases lexOf_err h with ⟨h1, _, _⟩ | ⟨h1, _, _, h2⟩
  · rw [ownL_len] at hl; omega
  · have h3 := lexL_bad (List.replicate m 32) (fun x hx => by rw [(List.mem_replicate.1 hx).2]; rfl) s.length 0 s _ (Nat.le_refl _) h2 (s.length + m) (by rw [List.length_replicate]; omega)
    have h4 := lexL_ahead (s ++ List.replicate m 32) (preL n) (preL_blank n) (ownL n m s).length 0 (by rw [preL_len, ownL_len]; omega)
    have h5 := lexL_shift n (s.length + m) 0 (s ++ List.replicate m 32)
    rw [h3] at h5
    rw [preL_len, show (ownL n m s).length - n = s.length + m by rw [ownL_len]; omega, h5, ← List.append_assoc] at h4
    unfold lexOf
    rw [if_neg (by omega)]
    exact h4
theorem own_ok {s : List UInt8} {n m : Nat} {xs : List Tok} (h : lexOf s = .ok xs) (hl : (ownL n m s).length ≤ 4096) : lexOf (ownL n m s) = .ok (xs.map (moveT n m)) := by
  obtain ⟨_, h2, _, _, ys, hy, hg⟩ := lexOf_ok h
  have h3 : lexL (s.length + m) 0 (s ++ List.replicate m 32) = .ok (ys ++ [⟨0, s.length + m, [], 0⟩]) := by
    cases m with
    | zero => rw [List.replicate_zero, List.append_nil, Nat.add_zero, h2, hy]
    | succ m =>
      rw [List.replicate_succ, lexL_app 32 (by rfl) (List.replicate m 32) s.length 0 s xs (Nat.le_refl _) h2 _ (by rw [List.length_replicate]; omega),
        lexL_blanks (List.replicate m 32) (fun x hx => by rw [(List.mem_replicate.1 hx).2]; rfl) _ _ (Nat.le_refl _), hy]
      simp only [joinR, List.dropLast_concat, List.length_replicate, Except.ok.injEq, List.append_cancel_left_eq, List.cons.injEq, Tok.mk.injEq, true_and, and_true]
      omega
  have h4 := lexL_ahead (s ++ List.replicate m 32) (preL n) (preL_blank n) (ownL n m s).length 0 (by rw [preL_len, ownL_len]; omega)
  have h5 := lexL_shift n (s.length + m) 0 (s ++ List.replicate m 32)
  rw [h3] at h5
  rw [preL_len, show (ownL n m s).length - n = s.length + m by rw [ownL_len]; omega, h5, ← List.append_assoc] at h4
  unfold lexOf
  rw [if_neg (by omega)]
  refine Eq.trans h4 ?_
  simp only [shiftR, Except.ok.injEq]
  rw [hy, List.map_append, List.map_append]
  congr 1
  · refine List.map_congr_left (fun y hy' => ?_)
    have := (hg y hy').1
    unfold shiftT moveT
    rw [if_neg (by omega)]
  · simp only [List.map_cons, List.map_nil, shiftT, moveT, if_true, List.cons.injEq, Tok.mk.injEq, true_and, and_true]
    omega

set_option maxHeartbeats 2000000 in
set_option maxRecDepth 100000 in
theorem LexBlanks_walk (s : ByteArray) (hs : s.size ≤ 140737488355328) (x y : Int) (x0 : 0 ≤ x) (x1 : x ≤ 255) (y0 : 0 ≤ y) (y1 : y ≤ 255) (w : World) (hE : EnvL w) :
    Calls Tryd.prog 6 #[.string s, .int .u8 x, .int .u8 y] w fun e w' => e = .returned (.bool true) ∧ Fr [] w w' := by
  obtain ⟨n, hn⟩ : ∃ n : Nat, x % 100 = (n : Int) := ⟨(x % 100).toNat, by omega⟩
  obtain ⟨m, hm⟩ : ∃ m : Nat, y % 100 = (m : Int) := ⟨(y % 100).toNat, by omega⟩
  have hnb : n < 100 := by omega
  have hmb : m < 100 := by omega
  have c1 := fun w hE => Lib.hid (Lex_f s (by omega) w hE)
  have hc10 := fun w => run_bytes_one Tryd.underlying32 Tryd.underlying5 Tryd.underlying9 w 10 5
  have hc32 := fun w => run_bytes_one Tryd.underlying32 Tryd.underlying5 Tryd.underlying9 w 32 5
  go_enter Tryd.func6, Tryd.ntmps6
  go_wp2_with fail
  refine (awake5_any _ hE).mono ?_; rintro e w1 ⟨rfl, f1⟩; go_wp2_with fail
  go_loopw [9, 10] (fun v i wr => ∃ k : Nat, i = .int .i64 k ∧ k ≤ n ∧ v = .string ⟨(preL k ++ s.data.toList).toArray⟩ ∧ Fr [] w1 wr) (fun _ i _ => n - (intOf i).toNat)
  case atStart => exact ⟨0, rfl, by omega, by rw [show preL 0 ++ s.data.toList = s.data.toList from rfl, mk_list], Fr.refl _ _⟩
  case round =>
    obtain ⟨k, rfl, hk, rfl, fr⟩ := hrel
    have hY : (preL k ++ s.data.toList).length ≤ 100 + s.size := by rw [List.length_append, preL_len, size_list]; omega
    by_cases hlt : k < n
    · have hp := Lib.hid (show preL (k + 1) = (if k % 2 = 0 then 10 else 32) :: preL k from rfl)
      generalize hq : preL k ++ s.data.toList = Y at *
      have HY := Lib.hid hq
      clear hq
      by_cases h2 : k % 2 = 0
      · have hk2 : (k : Int) % 2 = 0 := by omega
        have HP := Lib.hid (show preL (k + 1) = 10 :: preL k by rw [hp.out, if_pos h2])
        clear hp h2
        go_wp2_with fail
        go_roundw
        case rel => exact ⟨k + 1, by go_num, by omega, by rw [HP.out, List.cons_append, HY.out]; simp [ByteArray.mk_append_mk], fr.alloc _⟩
        case measure => simp [intOf]; omega
      · have hk2 : (k : Int) % 2 = 1 := by omega
        have HP := Lib.hid (show preL (k + 1) = 32 :: preL k by rw [hp.out, if_neg h2])
        clear hp h2
        go_wp2_with fail
        go_roundw
        case rel => exact ⟨k + 1, by go_num, by omega, by rw [HP.out, List.cons_append, HY.out]; simp [ByteArray.mk_append_mk], fr.alloc _⟩
        case measure => simp [intOf]; omega
    · have hkn : k = n := by omega
      subst hkn
      have hstart : preL k ++ s.data.toList = preL k ++ s.data.toList ++ List.replicate 0 32 := by simp
      clear hc10 hc32
      rw [hstart]
      clear hstart
      go_wp2_with fail
      go_loopw [9, 11] (fun v i wr => ∃ j : Nat, i = .int .i64 j ∧ j ≤ m ∧ v = .string ⟨(ownL k j s.data.toList).toArray⟩ ∧ Fr [] w1 wr) (fun _ i _ => m - (intOf i).toNat)
      case atStart => exact ⟨0, rfl, by omega, rfl, fr⟩
      case round =>
        obtain ⟨j, rfl, hj, rfl, fr⟩ := hrel
        have hZ := ownL_len k j s.data.toList
        rw [size_list] at hZ
        by_cases hlt2 : j < m
        · have hp := Lib.hid (show ownL k (j + 1) s.data.toList = ownL k j s.data.toList ++ [32] by unfold ownL; rw [List.replicate_succ', ← List.append_assoc])
          have hZ2 : (ownL k j s.data.toList).length ≤ 200 + s.size := by omega
          clear hZ
          generalize ownL k j s.data.toList = Z at *
          go_wp2_with fail
          go_roundw
          case rel => exact ⟨j + 1, by go_num, by omega, by rw [hp.out]; simp [ByteArray.mk_append_mk], fr⟩
          case measure => simp [intOf]; omega
        · have hjm : j = m := by omega
          subst hjm
          have hEr := (hE.fr f1).fr fr
          have hZ2 : (ownL k j s.data.toList).length ≤ 200 + s.size := by omega
          have hzs : (ByteArray.mk (ownL k j s.data.toList).toArray).size = (ownL k j s.data.toList).length := rfl
          by_cases hbig : (ownL k j s.data.toList).length ≤ 4096
          · cases hl : lexOf s.data.toList with
            | error z =>
              obtain ⟨er, p⟩ := z
              have c2 := fun w hE => Lib.hid (Lex_er ⟨(ownL k j s.data.toList).toArray⟩ (by rw [hzs]; omega) (own_err hl hbig) w hE)
              have her : ¬ er = 0 := by rcases lexOf_err hl with h | h <;> omega
              have hp : (p : Int) < (s.size : Int) := by rcases lexOf_err hl with h | h <;> (rw [size_list] at h; omega)
              rw [hl] at c1
              clear hl hzs hZ
              generalize ownL k j s.data.toList = Z at *
              go_wp2_with fail
              refine (c1 _ hEr).out.mono ?_; rintro e w2 ⟨he, f2⟩; obtain rfl := (show e = _ from he); go_wp2_with fail
              refine (c2 _ (hEr.fr f2)).out.mono ?_; rintro e w3 ⟨rfl, f3⟩; go_wp2_with fail
              all_goals
                go_ret
                exact ⟨by simp, ((f1.trans fr).trans f2).trans f3⟩
            | ok xs =>
              have c2 := fun w hE => Lib.hid (Lex_ok ⟨(ownL k j s.data.toList).toArray⟩ (by rw [hzs]; omega) (own_ok hl hbig) w hE)
              rw [hl] at c1
              rw [List.length_map] at c2
              obtain ⟨_, _, hxl, hbx, _⟩ := lexOf_ok hl
              have HBX := Lib.hid hbx
              clear hl hzs hZ hbx
              generalize ownL k j s.data.toList = Z at *
              go_wp2_with fail
              refine (c1 _ hEr).out.mono ?_; rintro e w2 ⟨⟨g1, d1, rfl, hg1, hR1⟩, f2⟩; go_wp2_with fail
              refine (c2 _ (hEr.fr f2)).out.mono ?_; rintro e w3 ⟨⟨g2, d2, rfl, hg2, hR2⟩, f3⟩
              have hR1 := hR1.fr f3 hg1
              have hg1 := Nat.lt_of_lt_of_le hg1 f3.size
              have f14 := ((f1.trans fr).trans f2).trans f3
              clear f1 fr f2 f3 c1 c2
              go_wp2_with fail
              go_loopw [114] (fun i wr => ∃ q : Nat, i = .int .i64 q ∧ q ≤ xs.length ∧ Fr [] w3 wr) (fun i _ => xs.length - (intOf i).toNat)
              case atStart => exact ⟨0, rfl, by omega, Fr.refl [] w3⟩
              case round =>
                obtain ⟨q, rfl, hq, fr⟩ := hrel
                by_cases hlt3 : q < xs.length
                · have ht : xs[q]? = some xs[q] := List.getElem?_eq_getElem (by omega)
                  have hz : (xs.map (moveT k j))[q]? = some (moveT k j xs[q]) := by rw [List.getElem?_map, ht]; rfl
                  have hR1 := hR1.fr fr hg1
                  have hR2 := hR2.fr fr hg2
                  have hbt := HBX.out _ (List.getElem_mem hlt3)
                  have a0 := hR1.c0 q _ ht
                  have a1 := hR1.c1 q _ ht
                  have a2 := hR1.c2 q _ ht
                  have a3 := hR1.c3 q _ ht
                  have b0 := hR2.c0 _ _ hz
                  have b1 := hR2.c1 _ _ hz
                  have b2 := hR2.c2 _ _ hz
                  have b3 := hR2.c3 _ _ hz
                  have hta := hbt.a
                  have hgs1 := Nat.lt_of_lt_of_le hg1 fr.size
                  have hgs2 := Nat.lt_of_lt_of_le hg2 fr.size
                  clear ht hz hR1 hR2 hbt
                  generalize xs[q] = t at *
                  obtain ⟨tk, ta, tt, tn⟩ := t
                  simp only [moveT] at a0 a1 a2 a3 b0 b1 b2 b3 hta
                  by_cases htk : tk = 0
                  · subst htk
                    rw [if_pos rfl, show ((ta + k + j : Nat) : Int) = (ta : Int) + (k : Int) + (j : Int) by omega] at b1
                    go_wp2_with fail
                    go_quiet (fail)
                    go_wp2_with fail
                    go_roundw
                    case rel => exact ⟨q + 1, by go_num, by omega, (fr.alloc _).drewN _⟩
                    case measure => simp [intOf]; omega
                  · have d1 : (tk == 0) = false := beq_eq_false_iff_ne.2 htk
                    rw [if_neg htk, show ((ta + k : Nat) : Int) = (ta : Int) + (k : Int) by omega] at b1
                    go_wp2_with fail
                    go_quiet (fail)
                    go_wp2_with fail
                    go_roundw
                    case rel => exact ⟨q + 1, by go_num, by omega, (fr.alloc _).drewN _⟩
                    case measure => simp [intOf]; omega
                · go_wp2_with fail
                  go_ret
                  exact ⟨rfl, f14.trans fr⟩
          · have hl : lexOf (ByteArray.mk (ownL k j s.data.toList).toArray).data.toList = .error (4, 0) := by
              show lexOf (ownL k j s.data.toList) = _
              unfold lexOf
              rw [if_pos (by omega)]
            have c2 := fun w hE => Lib.hid (Lex_er ⟨(ownL k j s.data.toList).toArray⟩ (by rw [hzs]; omega) hl w hE)
            clear hl hzs hZ
            generalize ownL k j s.data.toList = Z at *
            cases hl : lexOf s.data.toList
            all_goals
              rw [hl] at c1
              clear hl
              go_wp2_with fail
              refine (c1 _ hEr).out.mono ?_; rintro e w2 ⟨he, f2⟩
              first | (obtain ⟨_, _, rfl, _, _⟩ := he) | (obtain rfl := (show e = _ from he))
              go_wp2_with fail
              refine (c2 _ (hEr.fr f2)).out.mono ?_; rintro e w3 ⟨rfl, f3⟩; go_wp2_with fail
              go_ret
              exact ⟨rfl, ((f1.trans fr).trans f2).trans f3⟩
end Go.Proofs.YteffobcelgbiiaaDoor
