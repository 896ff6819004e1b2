/- Layer 5, walks: the reference's list of tokens. -/
import Derived.Test.YteffobcelgbiiaaDoorLx
namespace Go.Proofs.YteffobcelgbiiaaDoor
open Go.RowKit

set_option maxHeartbeats 1000000 in
set_option maxRecDepth 100000 in
theorem RLex_big (s : ByteArray) (hs : s.size ≤ 9223372036854775807) (hb : 4096 < s.size) (w : World) :
    Calls Tryd.prog 10 #[.string s] w fun e w' => lexOk (lexOf s.data.toList) w.heap.size e w' ∧ Fr [] w w' := by
  have h0 : lexOf s.data.toList = .error (4, 0) := by unfold lexOf; rw [if_pos (by rw [size_list]; exact hb)]
  rw [h0]
  go_enter Tryd.func10, Tryd.ntmps10
  go_wp2_with fail
  go_ret3
  exact ⟨rfl, Fr.refl _ _⟩

set_option maxHeartbeats 1000000 in
set_option maxRecDepth 100000 in
theorem RLex_small (s : ByteArray) (hs : s.size ≤ 4096) (w : World) (hE : EnvL w) :
    Calls Tryd.prog 10 #[.string s] w fun e w' => lexOk (lexOf s.data.toList) w.heap.size e w' ∧ Fr [] w w' := by
  obtain ⟨i0, hi, hz0, hz1, hz2⟩ := info_parts infoTok
  have H0 := Lib.hid ((withL_nil _).symm.trans (congrArg (withL []) (restL_zero s hs)).symm).symm
  have HA : Hid (withL [] (restL s 0) = lexOf s.data.toList) := Lib.hid (by rw [withL_nil, restL_zero s hs])
  clear H0
  generalize lexOf s.data.toList = R at *
  go_enter Tryd.func10, Tryd.ntmps10
  go_wp2_with fail
  have hstart := OwnT.none w
  have hfs : Fr [] w (w.alloc (.cells #[] 31)) := (Fr.refl [] w).alloc _
  go_loopw [5, 6] (fun v i wr => ∃ (k : Nat) (ts : List Tok), k ≤ s.size ∧ i = .int .i64 k ∧ OwnT w.heap.size v ts wr ∧ ts.length ≤ k ∧ Fr [] w wr ∧ Hid (withL ts (restL s k) = R)) (fun _ i _ => s.size - (intOf i).toNat)
  case atStart => exact ⟨0, [], Nat.zero_le _, rfl, hstart, Nat.le_refl _, hfs, HA⟩
  case round =>
    obtain ⟨k, ts, hk, rfl, ⟨hown, hog⟩, hlen, hf, HR⟩ := hrel
    clear HA hstart hfs
    by_cases hlt : k < s.size
    · by_cases hbl : s[k] = 32 ∨ s[k] = 10
      · have HR2 : Hid (withL ts (restL s (k + 1)) = R) := Lib.hid (by rw [← restL_blank s k hlt hbl]; exact HR.out)
        have key : (((s[k].toNat : Nat) : Int) == 32) = true ∨ ((((s[k].toNat : Nat) : Int) == 32) = false ∧ (((s[k].toNat : Nat) : Int) == 10) = true) := by
          rcases hbl with h | h
          · left; rw [h]; rfl
          · right; rw [h]; exact ⟨rfl, rfl⟩
        clear hbl
        rcases key with b1 | ⟨b1, b2⟩
        all_goals
          go_wp2_with fail
          go_roundw
          case rel => exact ⟨k + 1, ts, by omega, by go_num, ⟨hown, hog⟩, by omega, hf, HR2⟩
          case measure => simp [intOf]; omega
      · have b1 : (((s[k].toNat : Nat) : Int) == 32) = false := byte_ne (n := 32) (by omega) (fun h => hbl (.inl h))
        have b2 : (((s[k].toNat : Nat) : Int) == 10) = false := byte_ne (n := 10) (by omega) (fun h => hbl (.inr h))
        have c1 := fun w hE => Lib.hid (R5one_any s (by omega) k hlt w hE)
        have hEr := hE.fr hf
        cases ht : tok (s.data.toList.drop k) with
        | error er =>
          have hR := Lib.hid (HR.out.symm.trans (congrArg (withL ts) (restL_err s k hlt hbl ht)))
          have her : ¬ er = 0 := by rcases tok_errs ht with h | h <;> omega
          rw [ht] at c1
          clear ht hbl HR
          go_wp2_with fail
          refine (c1 _ hEr).out.mono ?_
          rintro e x1 ⟨⟨ek, ea, et, en, v2, rfl⟩, f1⟩
          unfold tokV
          go_wp2_with fail
          go_ret3
          refine ⟨?_, (hf.trans f1).alloc _⟩
          rw [hR.out]
          exact rfl
        | ok x =>
          obtain ⟨kd, tx, n, m⟩ := x
          have hm := tok_len ht
          rw [drop_len] at hm
          have HR2 : Hid (withL (ts ++ [⟨kd, k, tx, n⟩]) (restL s (k + m)) = R) := Lib.hid (by rw [← restL_tok s k hlt hbl ht]; exact HR.out)
          rw [ht] at c1
          clear ht hbl HR
          go_wp2_with fail
          refine (c1 _ hEr).out.mono ?_
          rintro e x1 ⟨he, f1⟩
          have he : e = .returned (.tuple #[tokV kd k tx n, .int .i64 ((k + m : Nat) : Int), .int .i64 0]) := he
          subst he
          unfold tokV
          have hown1 := ownsRow_fr hown f1 (fun _ _ h => by cases h)
          go_wp2_with (at_builtin; refine wpList_append_fp _ rfl _ _ 23 rfl 31 i0 _ 4 40 Tryd.underlying23 hi hz0 hz1 hz2 rfl (by decide) _ _ _ rfl ((hown1.alloc _).alloc _) ⟨x1.heap.size + 1, 0, none⟩ 1 1 [.int .i64 kd, .int .i64 k, .string ⟨tx.toArray⟩, .int .i64 n] rfl rfl ?c1 ?c2 ?c3 ?c4 ?_)
          case c1 =>
            refine tok_news _ _ _ _ _ _ 31 ?_
            have := heap_new (x1.alloc (.cells #[.int .i64 kd, .int .i64 k, .string ⟨tx.toArray⟩, .int .i64 n] 31)) (.cells #[.int .i64 kd, .int .i64 k, .string ⟨tx.toArray⟩, .int .i64 n] 31)
            rw [World.size_alloc] at this
            exact this
          case c2 => intro u hu; simp at hu; rcases hu with rfl | rfl | rfl | rfl <;> rfl
          case c3 => unfold maxLen; omega
          case c4 => omega
          intro v' w2 hown2 hgrow hfp
          have hf2 : Fr [] w w2 := (((hf.trans f1).alloc _).alloc _).append hgrow (fun g hg => .inr (hog g hg))
          have hog2 : ∀ g, v'.ownBlock = some g → w.heap.size ≤ g := fun g hg => by
            rcases hfp g hg with h | h
            · exact hog g h
            · have := hf.size; have := f1.size; (try simp only [World.size_alloc] at h); omega
          have hown3 : w2.ownsRow 0 31 4 v' (ts ++ [(⟨kd, k, tx, n⟩ : Tok)]).length (toksC (ts ++ [(⟨kd, k, tx, n⟩ : Tok)])) := by
            rw [toksC_snoc, List.length_append]; exact hown2
          clear hown2 hgrow hfp hown1 hown
          go_wp2_with fail
          go_roundw
          case rel => exact ⟨k + m, ts ++ [⟨kd, k, tx, n⟩], by omega, by go_num, ⟨hown3, hog2⟩, by rw [List.length_append, List.length_singleton]; omega, hf2, HR2⟩
          case measure => simp [intOf]; omega
    · have hke : k = s.size := by omega
      subst hke
      have hR := Lib.hid (HR.out.symm.trans (congrArg (withL ts) (restL_end s)))
      go_wp2_with (at_builtin; refine wpList_append_fp _ rfl _ _ 23 rfl 31 i0 _ 4 40 Tryd.underlying23 hi hz0 hz1 hz2 rfl (by decide) _ _ _ rfl (hown.alloc _) ⟨wr.heap.size, 0, none⟩ 1 1 [.int .i64 0, .int .i64 s.size, .string ⟨#[]⟩, .int .i64 0] rfl rfl ?d1 ?d2 ?d3 ?d4 ?_)
      case d1 => exact tok_news _ _ _ _ _ _ 31 (heap_new wr _)
      case d2 => intro u hu; simp at hu; rcases hu with rfl | rfl | rfl | rfl <;> rfl
      case d3 => unfold maxLen; omega
      case d4 => omega
      intro v' w2 hown2 hgrow hfp
      have hf2 : Fr [] w w2 := (hf.alloc _).append hgrow (fun g hg => .inr (hog g hg))
      have hog2 : ∀ g, v'.ownBlock = some g → w.heap.size ≤ g := fun g hg => by
        rcases hfp g hg with h | h
        · exact hog g h
        · have := hf.size; (try simp only [World.size_alloc] at h); omega
      have hown3 : w2.ownsRow 0 31 4 v' (ts ++ [(⟨0, s.size, [], 0⟩ : Tok)]).length (toksC (ts ++ [(⟨0, s.size, [], 0⟩ : Tok)])) := by
        rw [toksC_snoc, List.length_append]; exact hown2
      clear hown2 hgrow hfp hown
      go_wp2_with fail
      go_ret3
      refine ⟨?_, hf2⟩
      rw [hR.out]
      exact ⟨v', rfl, hown3, hog2⟩
/-- the reference's tokens of a text -/
theorem RLex_any (s : ByteArray) (hs : s.size ≤ 9223372036854775807) (w : World) (hE : EnvL w) :
    Calls Tryd.prog 10 #[.string s] w fun e w' => lexOk (lexOf s.data.toList) w.heap.size e w' ∧ Fr [] w w' := by
  by_cases h : s.size ≤ 4096
  · exact RLex_small s h w hE
  · exact RLex_big s hs (by omega) w
end Go.Proofs.YteffobcelgbiiaaDoor
