/- A part of the proof: Pl, Pn1, Pn2, Pn3, Pn, Pv, Pg, It1, It2, It3, It4. -/
import Derived.Deep.DrawnRows
import Derived.Test.YtpjkfeehgookkaaGreatDoorCb3
namespace Go.Proofs.YtpjkfeehgookkaaGreatDoor
open Go.RowKit
attribute [local go_sem ↓] Go.wp_at_zero Go.wp_at_succ
set_option maxHeartbeats 8000000 in
set_option maxRecDepth 100000 in
theorem app_op (ts : List Tok) (hE : EndOk ts) (N : Nat) (ih : AllE ts N) (P g c : Nat) (st : St) (w : World) (h : PSt P g c ts st w) (hm : 16 * (ts.length - st.i) + 5 < N + 1) (t : Tok) (ht : ts[st.i]? = some t) (hok : st.ok = true) (hk : (t.k == 6) = true) (hcn : 0 < (calledOf t.text).1) : Calls Tryz.prog 152 #[.pointer (some ⟨P, 0, none⟩)] w (ExOk P g c ts st (body .app) w) := by
 have HOK := Lib.hid hok
 have HK := Lib.hid hk
 have HC : Hid (0 < (calledOf t.text).1) := Lib.hid hcn
 have hk3 : (t.k == 3) = false := by rw [beq_eq_false_iff_ne]; have := beq_iff_eq.1 hk; omega
 have HK3 := Lib.hid hk3
 have cc := fun w => Lib.hid (called_any t.text w)
 have HCM : Hid ((calledOf t.text).2 ≤ 3) := Lib.hid (by unfold calledOf; split <;> (try simp) <;> (repeat (split <;> (try simp))))
 generalize hcall : calledOf t.text = cnm at *
 obtain ⟨cn, cm⟩ := cnm
 have HCALL := Lib.hid hcall
 simp only at *
 clear hok hk hk3 hcall
 have H := Lib.hid h
 have hP := lt_of_heap h.blk
 have hgl := h.lt
 have hin := h.inb
 have HN := Lib.hid hm
 have HE := Lib.hid hE
 have IH := Lib.hid ih
 clear h hm hE ih
 go_enter Tryz.func152, Tryz.ntmps152
 go_wp2_with fail
 have f0 : Fr [] w (w.alloc (.cells #[.int .i64 0, .int .i64 0, .string ⟨#[]⟩, .int .i64 0, .string ⟨#[]⟩, .slice none 0 0, .slice none 0 0, .slice none 0 0] 27)) := (Fr.refl [] w).alloc _
 have g0 := heap_new w (.cells #[.int .i64 0, .int .i64 0, .string ⟨#[]⟩, .int .i64 0, .string ⟨#[]⟩, .slice none 0 0, .slice none 0 0, .slice none 0 0] 27)
 generalize w.alloc (.cells #[.int .i64 0, .int .i64 0, .string ⟨#[]⟩, .int .i64 0, .string ⟨#[]⟩, .slice none 0 0, .slice none 0 0, .slice none 0 0] 27) = w1 at *
 generalize hB : w.heap.size = B at *
 have hB1 := lt_of_heap g0
 have nP : ¬ P = B := by omega
 have nB : ¬ B = P := by omega
 have ng : ¬ g = B := by omega
 refine (now_any P g c ts st t ht w1 (H.out.fr f0) HE.out).mono ?_
 rintro e x3 ⟨rfl, f3⟩
 have hTB := lt_of_heap (f3.keep g0 (fun x => by cases x))
 have h3 := H.out.fr (f0.trans f3)
 have hP3 := lt_of_heap h3.blk
 have q3 := heap_new x3 (.cells #[.int .i64 t.k, .int .i64 t.at', .string ⟨t.text.toArray⟩, .int .i64 t.n] 46)
 have fb4 : Fr [] x3 (x3.alloc (.cells #[.int .i64 t.k, .int .i64 t.at', .string ⟨t.text.toArray⟩, .int .i64 t.n] 46)) := (Fr.refl [] x3).alloc _
 have f4 := (f0.trans f3).trans fb4
 have g0 := (f3.trans fb4).keep g0 (fun x => by cases x)
 have h4 := H.out.fr f4
 obtain ⟨p0, p1, p2, _⟩ := cells3 h3.blk
 have hT4 := lt_of_heap q3
 clear h3 fb4
 have HT := Lib.hid ht
 have hok := HOK.out
 have hk := HK.out
 have hk3 := HK3.out
 rw [hok] at p2
 have hk0 : t.k ≠ 0 := by have := beq_iff_eq.1 hk; omega
 have cx := fun w h => Lib.hid (next_any P g c ts st t ht hok hk0 w h HE.out)
 clear hok hk0 ht
 go_wp2_with fail
 refine (cc _).out.mono ?_; rintro e y4 ⟨rfl, rfl⟩
 have hcn := HC.out
 go_wp2_with fail
 clear p0 p1 p2 hk hk3
 generalize x3.alloc (.cells #[.int .i64 t.k, .int .i64 t.at', .string ⟨t.text.toArray⟩, .int .i64 t.n] 46) = x4 at *
 generalize x3.heap.size = T3 at *
 refine (cx x4 h4).out.mono ?_
 rintro e x5 ⟨rfl, h5, f5⟩
 have g0 := f5.keep g0 (by simpa using nB)
 have q3 := f5.keep q3 (by simp; omega)
 have hs5 := f5.size
 have F5 : Fr [P] w x5 := (f4.mono (fun x hx => by cases hx)).trans f5
 obtain ⟨m0, m1, m2, m3, _⟩ := cells4 q3
 clear cx f4 f0 f3 f5
 go_wp2_with fail
 refine (op_any _ t _ _ _ _).mono ?_; rintro e x6 ⟨rfl, f6⟩
 go_wp2_with fail
 have hTT := lt_of_heap (f6.keep g0 (fun x => by cases x))
 have hP6 := lt_of_heap ((h5.fr f6).blk)
 have q6 := heap_new x6 (.cells #[.int .i64 19, .int .i64 t.at', .string ⟨#[]⟩, .int .i64 cn, .string ⟨#[]⟩, .slice none 0 0, .slice none 0 0, .slice none 0 0] 27)
 have fb6 : Fr [] x6 (x6.alloc (.cells #[.int .i64 19, .int .i64 t.at', .string ⟨#[]⟩, .int .i64 cn, .string ⟨#[]⟩, .slice none 0 0, .slice none 0 0, .slice none 0 0] 27)) := (Fr.refl [] x6).alloc _
 have g0 := (f6.trans fb6).keep g0 (fun x => by cases x)
 have h7 := h5.fr (f6.trans fb6)
 have F7 := F5.trans0 (f6.trans fb6)
 generalize x6.alloc (.cells #[.int .i64 19, .int .i64 t.at', .string ⟨#[]⟩, .int .i64 cn, .string ⟨#[]⟩, .slice none 0 0, .slice none 0 0, .slice none 0 0] 27) = x7 at *
 have hT6 := lt_of_heap q6
 generalize x6.heap.size = T6 at *
 obtain ⟨i0, hi, hz0, hz1, hz2⟩ := info_parts infoExpr
 have HI := Lib.hid hi
 have HZ0 := Lib.hid hz0
 have HZ1 := Lib.hid hz1
 have HZ2 := Lib.hid hz2
 have HR0 : Hid (∀ x st', Run ts (body (.opL cn t.at' cm [])) ⟨st.i + 1, st.ok⟩ (.e x) st' → Run ts (body .app) st (.e x) st') := Lib.hid (fun x st' h => .look HT.out (by rw [HOK.out, HK3.out, HK.out, HCALL.out]; simp [HC.out]; exact .adv (.callE h .retE)))
 clear m0 m1 m2 m3 hi hz0 hz1 hz2 fb6 f6 q3 cc
 go_loopw [54] (fun iv wr => ∃ (j : Nat) (acc : List ExprT) (v6 : Value) (c6 : Nat → List Value) (st0 : St), iv = .int .i64 j ∧ j ≤ cm ∧ acc.length = j ∧ Fr [P] w wr ∧ wr.heap[B]? = some (.cells #[.int .i64 0, .int .i64 0, .string ⟨#[]⟩, .int .i64 0, .string ⟨#[]⟩, .slice none 0 0, .slice none 0 0, .slice none 0 0] 27 (0, 0)) ∧ T6 < wr.heap.size ∧ wr.heap[T6]? = some (.cells #[.int .i64 19, .int .i64 t.at', .string ⟨#[]⟩, .int .i64 cn, .string ⟨#[]⟩, .slice none 0 0, v6, .slice none 0 0] 27 (0, 0)) ∧ RowE wr (fun b => B < b ∧ ¬ b = T6 ∧ ¬ b = P) v6 acc c6 ∧ PSt P g c ts st0 wr ∧ st.i + 1 ≤ st0.i ∧ Hid (∀ x st', Run ts (body (.opL cn t.at' (cm - j) acc)) st0 (.e x) st' → Run ts (body .app) st (.e x) st')) (fun iv wr => cm - (intOf iv).toNat)
 case atStart => exact ⟨0, [], .slice none 0 0, fun _ => [], _, rfl, by omega, rfl, F7, g0, hT6, q6, RowG.nil_, h7, by simp, HR0⟩
 case round =>
  obtain ⟨j, acc, v6, c6, st0, rfl, hj, hlen, F, g0, hT, q0, hrow, h0, hle0, HR⟩ := hrel
  clear q6 h7 F7 hT6 HR0 F5 h5 h4 hs5
  have hcm := HCM.out
  have HL := Lib.hid hlen
  by_cases hlt : j < cm
  ·have cS := fun W hW => Lib.hid (IH.out.post P g c st0 W hW (by have := HN.out; have := h0.inb; omega))
   obtain ⟨⟨l0, l1, l2, l3, l4, l5, l6, l7⟩, _⟩ := cells8 q0
   have HROW := Lib.hid hrow
   have HH0 := Lib.hid h0
   have nTP : ¬ T6 = P := by omega
   have nBT : B < T6 := by omega
   clear hrow hlen
   go_wp2_with fail
   refine wp_region_last8 (fun w' => w'.cell? ⟨T6, 6, none⟩ = some v6) (by kernel_rfl) (by kernel_rfl) ?hS0 (fun K hK hHeld => ?hr0)
   case hS0 => go_keep
   refine held_take (i := 0) (v := ?v1) rfl (by kernel_rfl) (by kernel_rfl) (by kernel_rfl) (fun _ _ _ h => h) (Or.inl ⟨by rfl, ?hy1⟩) (by assumption) ?hr1
   case hy1 =>
    intro w' hSw
    (try dsimp only at hSw)
    go_simp
    (try with_reducible rfl)
   (try simp only [Act.put, List.setIfInBounds_toArray, List.set_cons_zero, List.set_cons_succ])
   refine held_take (i := 1) (v := ?v2) rfl (by kernel_rfl) (by kernel_rfl) (by kernel_rfl) (fun _ _ _ h => h) (Or.inl ⟨by rfl, ?hy2⟩) (by assumption) ?hr2
   case hy2 =>
    intro w' hSw
    (try dsimp only at hSw)
    go_simp
    (try with_reducible rfl)
   (try simp only [Act.put, List.setIfInBounds_toArray, List.set_cons_zero, List.set_cons_succ])
   refine held_take (i := 2) (v := ?v3) rfl (by kernel_rfl) (by kernel_rfl) (by kernel_rfl) (fun _ _ _ h => h) (Or.inl ⟨by rfl, ?hy3⟩) (by assumption) ?hr3
   case hy3 =>
    intro w' hSw
    (try dsimp only at hSw)
    go_simp
    (try with_reducible rfl)
   (try simp only [Act.put, List.setIfInBounds_toArray, List.set_cons_zero, List.set_cons_succ])
   refine held_step (i := 3) rfl (by kernel_rfl) (fun K3 hK3 => ?hr4)
   go_simp
   refine (cS _ (HH0.out.fr (Fr.refl [] wr).drew)).out.mono ?_
   rintro e x8 ⟨k2, a2, nm2, n2, s2, ls2, args2, arms2, A52, n52, c52, A62, n62, c62, A72, n72, c72, st2, rfl, hx2, hr2, hst2, f8⟩
   have Q8 := f8.keep (w := wr.drew) q0 (by simpa using nTP)
   have hT8 := lt_of_heap Q8
   obtain ⟨⟨u0, u1, u2, u3, u4, u5, u6, u7⟩, z0, z1, z2, z3, z4, z5, z6, z7⟩ := cells8 Q8
   have ROW9 := RowG.keep (w' := x8.alloc (.cells #[.int .i64 k2, .int .i64 a2, .string ⟨nm2.toArray⟩, .int .i64 n2, .string ⟨s2.toArray⟩, .slice A52 n52 c52, .slice A62 n62 c62, .slice A72 n72 c72] 27)) (ok' := fun b => B < b ∧ ¬ b = T6 ∧ ¬ b = P) keepsE HROW.out (Sh.of_fr (((Fr.refl [P] wr).drew.trans f8).alloc _) (fun b hb hlt => ⟨hb, by simpa using hb.2.2⟩))
   go_simp
   refine hK3.out _ _ ?hS4 (fun hHeld => ?hq4)
   case hS4 => exact u6
   clear hK3 K3
   (try simp only [Act.put, List.setIfInBounds_toArray, List.set_cons_zero, List.set_cons_succ])
   refine held_step (i := 4) rfl (by kernel_rfl) (fun K4 hK4 => ?hr5)
   go_simp
   refine hK4.out _ _ ?hS5 (fun hHeld => ?hq5)
   case hS5 => exact cell_of (heap_old Q8 _) 6
   clear hK4 K4
   (try simp only [Act.put, List.setIfInBounds_toArray, List.set_cons_zero, List.set_cons_succ])
   refine held_step (i := 5) rfl (by kernel_rfl) (fun K5 hK5 => ?hr6)
   refine step_append_fp (by rfl) _ _ 24 (by rfl) 27 i0 _ 8 128 Tryz.underlying24 HI.out HZ0.out HZ1.out HZ2.out rfl (by decide) v6 acc.length (flatN c6 acc.length) (by rfl) ROW9.own ⟨x8.heap.size, 0, none⟩ 1 1 [.int .i64 k2, .int .i64 a2, .string ⟨nm2.toArray⟩, .int .i64 n2, .string ⟨s2.toArray⟩, .slice A52 n52 c52, .slice A62 n62 c62, .slice A72 n72 c72] (by rfl) rfl (World.news_of_block (heap_new x8 _)) (by simp [Value.oneCell']) (by simp only [maxLen]; have := HL.out; have := HCM.out; omega) (by have := HL.out; have := HCM.out; omega) ?_
   intro v9 w9 hown9 hgrow9 hfp9
   obtain ⟨g9, cp9, rfl⟩ := own_form hown9
   have Q9 := (hgrow9.block T6 (lt_of_heap (heap_old Q8 (.cells #[.int .i64 k2, .int .i64 a2, .string ⟨nm2.toArray⟩, .int .i64 n2, .string ⟨s2.toArray⟩, .slice A52 n52 c52, .slice A62 n62 c62, .slice A72 n72 c72] 27))) (fun e => (HROW.out.blk T6 e.symm).2.1 rfl)).trans (heap_old Q8 (.cells #[.int .i64 k2, .int .i64 a2, .string ⟨nm2.toArray⟩, .int .i64 n2, .string ⟨s2.toArray⟩, .slice A52 n52 c52, .slice A62 n62 c62, .slice A72 n72 c72] 27))
   have hT9 := lt_of_heap Q9
   clear u0 u1 u2 u3 u4 u5 u6 u7 z0 z1 z2 z3 z4 z5 z6 z7
   obtain ⟨⟨u0, u1, u2, u3, u4, u5, u6, u7⟩, z0, z1, z2, z3, z4, z5, z6, z7⟩ := cells8 Q9
   refine hK5.out _ _ ?hS6 (fun hHeld => ?hq6)
   case hS6 => exact u6
   clear hK5 K5
   (try simp only [Act.put, List.setIfInBounds_toArray, List.set_cons_zero, List.set_cons_succ])
   refine held_take (i := 6) (v := ?v7) rfl (by kernel_rfl) (by kernel_rfl) (by kernel_rfl) (fun _ _ _ h => h) (Or.inl ⟨by rfl, ?hy7⟩) (by assumption) ?hr7
   case hy7 =>
    intro w' hSw
    (try dsimp only at hSw)
    go_simp
    (try with_reducible rfl)
   (try simp only [Act.put, List.setIfInBounds_toArray, List.set_cons_zero, List.set_cons_succ])
   refine wpAnyH_done (by kernel_rfl) ?hr8 _
   refine thenLast_run rfl ?hq8
   go_simp
   refine hK.out _ _ ?hs8
   clear hK K
   all_goals
    clear u0 u1 u2 u3 u4 u5 u6 u7 z0 z1 z2 z3 z4 z5 z6 z7 l0 l1 l2 l3 l4 l5 l6 l7
    have f8 : Fr [P] wr x8 := ((Fr.refl [P] wr).drew).trans f8
    have hs8 := f8.size
    have hBT := lt_of_heap g0
    have blk := HROW.out.blk
    have olt : ∀ gg, v6.ownBlock = some gg → gg < wr.heap.size := fun gg hg => HROW.out.own_lt gg hg
    have hxa := hx2.keep (w' := x8.alloc (.cells #[.int .i64 k2, .int .i64 a2, .string ⟨nm2.toArray⟩, .int .i64 n2, .string ⟨s2.toArray⟩, .slice A52 n52 c52, .slice A62 n62 c62, .slice A72 n72 c72] 27)) (ok' := fun b => wr.heap.size ≤ b ∧ b < x8.heap.size) (Sh.of_fr ((Fr.refl [] x8).alloc _) (fun b hb hlt => ⟨⟨hb, hlt⟩, fun x => by cases x⟩))
    have row9 := RowG.app keepsE ROW9 hxa rfl (fun b hb hlt => ⟨⟨by omega, by omega, by omega⟩, fun e => by have := olt b e; omega⟩) hown9 hgrow9 hfp9 (fun b hb => by simp only [World.size_alloc] at hb; exact ⟨by omega, by omega, by omega⟩)
    have fg : Fr v6.ownBlock.toList (x8.alloc (.cells #[.int .i64 k2, .int .i64 a2, .string ⟨nm2.toArray⟩, .int .i64 n2, .string ⟨s2.toArray⟩, .slice A52 n52 c52, .slice A62 n62 c62, .slice A72 n72 c72] 27)) w9 := (Fr.refl _ _).append hgrow9 (fun gg hg => .inl (by simp [hg]))
    have fa : Fr [] x8 (x8.alloc (.cells #[.int .i64 k2, .int .i64 a2, .string ⟨nm2.toArray⟩, .int .i64 n2, .string ⟨s2.toArray⟩, .slice A52 n52 c52, .slice A62 n62 c62, .slice A72 n72 c72] 27)) := (Fr.refl [] x8).alloc _
    have nb : ∀ b, ¬ (B < b ∧ ¬ b = T6 ∧ ¬ b = P) → b ∉ v6.ownBlock.toList := fun b hb hm => hb (blk b (by simpa using hm))
    have g9' := fg.keep (fa.keep (f8.keep g0 (by simpa using nB)) (fun x => by cases x)) (nb B (by omega))
    have h9 := (hst2.fr fa).frL fg (nb P (by simp)) (nb g (by omega))
    have F9 : Fr [P] w w9 := ((F.trans f8).trans0 fa).append hgrow9 (fun gg hg => .inr (by have := (blk gg hg).1; omega))
    have fs := (Fr.refl [T6] w9).setCell (p := ⟨T6, 6, none⟩) (.inl (by simp)) (.slice (some ⟨g9, 0, none⟩) (acc.length + 1) cp9)
    have Q10 : (w9.setCell ⟨T6, 6, none⟩ (.slice (some ⟨g9, 0, none⟩) (acc.length + 1) cp9)).heap[T6]? = some (.cells #[.int .i64 19, .int .i64 t.at', .string ⟨#[]⟩, .int .i64 cn, .string ⟨#[]⟩, .slice none 0 0, .slice (some ⟨g9, 0, none⟩) (acc.length + 1) cp9, .slice none 0 0] 27 (0, 0)) := set_at Q9 6 _
    have g10 := fs.keep g9' (by simp; omega)
    have h10 := h9.frL fs (by simp; omega) (by simp; omega)
    have F10 := F9.step fs (fun x hx => .inr (by simp at hx; omega))
    have row10 := RowG.keep (ok' := fun b => B < b ∧ ¬ b = T6 ∧ ¬ b = P) keepsE row9 (Sh.of_fr fs (fun b hb hlt => ⟨hb, by simp; exact hb.2.1⟩))
    have hT10 := lt_of_heap Q10
    have hle2 := hr2.le
    have HF := Lib.hid F10
    have HRW := Lib.hid row10
    have HP10 := Lib.hid h10
    have HR10 : Hid (∀ x st', Run ts (body (.opL cn t.at' (cm - (j + 1)) (acc ++ [(.mk k2 a2 nm2 n2 s2 ls2 args2 arms2)]))) st2 (.e x) st' → Run ts (body .app) st (.e x) st') := Lib.hid (fun x st' h => HR.out _ _ (by
     have e : cm - j = (cm - (j + 1)) + 1 := by omega
     rw [e]
     exact .callE hr2 (.callE h .retE)))
    clear F10 row10 h10 h9 F9 row9 fg fa fs g9' ROW9 hown9 hgrow9 hfp9 hxa Q9 Q8 blk olt nb
    go_wp2_with fail
    go_roundw
    case rel => exact ⟨j + 1, acc ++ [(.mk k2 a2 nm2 n2 s2 ls2 args2 arms2)], _, _, st2, by simp, by omega, by simp; exact HL.out, HF.out, g10, hT10, Q10, HRW.out, HP10.out, by omega, HR10⟩
    case measure => simp [intOf]; omega
  ·have ej : j = cm := by omega
   subst ej
   have hform : ∃ A6 n6 cc6, v6 = .slice A6 n6 cc6 := by
    rcases hrow.own.2 with ⟨hv, _⟩ | ⟨g', cap, cur, hv, _⟩
    ·exact ⟨_, _, _, hv⟩
    ·exact ⟨_, _, _, hv⟩
   obtain ⟨A6, n6, cc6, rfl⟩ := hform
   have hBT := lt_of_heap g0
   have row0 := RowG.keep (ok' := fun b => B < b) keepsE hrow (Sh.of_fr (Fr.refl [] wr) (fun b hb hlt => ⟨hb.1, fun x => by cases x⟩))
   obtain ⟨⟨l0, l1, l2, l3, l4, l5, l6, l7⟩, _⟩ := cells8 q0
   obtain ⟨⟨u0, u1, u2, u3, u4, u5, u6, u7⟩, z0, z1, z2, z3, z4, z5, z6, z7⟩ := cells8 g0
   have HRN := HR
   clear hlen HR
   have HG := Lib.hid (st8_heap g0 (.int .i64 19) (.int .i64 t.at') (.string ⟨#[]⟩) (.int .i64 cn) (.string ⟨#[]⟩) (.slice none 0 0) (.slice A6 n6 cc6) (.slice none 0 0))
   have HF := Lib.hid ((F).step (st8_fr wr B (.int .i64 19) (.int .i64 t.at') (.string ⟨#[]⟩) (.int .i64 cn) (.string ⟨#[]⟩) (.slice none 0 0) (.slice A6 n6 cc6) (.slice none 0 0)) (fun x hx => .inr (by simp at hx; omega)))
   have HP := Lib.hid ((h0).frL (st8_fr wr B (.int .i64 19) (.int .i64 t.at') (.string ⟨#[]⟩) (.int .i64 cn) (.string ⟨#[]⟩) (.slice none 0 0) (.slice A6 n6 cc6) (.slice none 0 0)) (by simpa using nP) (by simpa using ng))
   have HR := Lib.hid (RowG.keep (ok' := fun b => B ≤ b) keepsE row0 (Sh.of_fr (st8_fr wr B (.int .i64 19) (.int .i64 t.at') (.string ⟨#[]⟩) (.int .i64 cn) (.string ⟨#[]⟩) (.slice none 0 0) (.slice A6 n6 cc6) (.slice none 0 0)) (fun b hb hlt => ⟨by omega, by simp; omega⟩)))
   unfold st8 at HG HF HP HR
   go_wp2_with fail
   generalize (((((((wr.setCell ⟨B, 0, none⟩ (.int .i64 19)).setCell ⟨B, 1, none⟩ (.int .i64 t.at')).setCell ⟨B, 2, none⟩ (.string ⟨#[]⟩)).setCell ⟨B, 3, none⟩ (.int .i64 cn)).setCell ⟨B, 4, none⟩ (.string ⟨#[]⟩)).setCell ⟨B, 5, none⟩ (.slice none 0 0)).setCell ⟨B, 6, none⟩ (.slice A6 n6 cc6)).setCell ⟨B, 7, none⟩ (.slice none 0 0) = Z at HG HF HP HR ⊢
   obtain ⟨⟨d0, d1, d2, d3, d4, d5, d6, d7⟩, _⟩ := cells8 HG.out
   have hxx := ExprAt.of_rows (k := 19) (a := t.at') (nm := []) (n := cn) (s := []) (c5 := fun _ => []) (c7 := fun _ => []) RowG.nil_ HR.out RowG.nil_
   refine bodyPost_ret (v := .agg #[.int .i64 19, .int .i64 t.at', .string ⟨#[]⟩, .int .i64 cn, .string ⟨#[]⟩, .slice none 0 0, .slice A6 n6 cc6, .slice none 0 0]) ?_ rfl ?_
   ·simp [results, Tryz.f152, go_sem, d0, d1, d2, d3, d4, d5, d6, d7]
   ·exact ⟨_, _, _, _, _, _, _, _, _, _, _, _, _, _, _, _, _, _, rfl, by rw [hB]; exact hxx, HRN.out _ _ (by rw [Nat.sub_self]; exact .retE), HP.out, HF.out⟩
end Go.Proofs.YtpjkfeehgookkaaGreatDoor
namespace Go.Proofs.YtpjkfeehgookkaaGreatDoor
open Go.RowKit
attribute [local go_sem ↓] Go.wp_at_zero Go.wp_at_succ
set_option maxHeartbeats 8000000 in
set_option maxRecDepth 100000 in
theorem app_app1 (ts : List Tok) (hE : EndOk ts) (N : Nat) (ih : AllE ts N) (P g c : Nat) (st : St) (w : World) (h : PSt P g c ts st w) (hm : 16 * (ts.length - st.i) + 5 < N + 1) (t : Tok) (ht : ts[st.i]? = some t) (hok : st.ok = false) : Calls Tryz.prog 152 #[.pointer (some ⟨P, 0, none⟩)] w (ExOk P g c ts st (body .app) w) := by
 have HOK := Lib.hid hok
 clear hok
 have cc := fun w => Lib.hid (called_any t.text w)
 generalize hcall : calledOf t.text = cnm at *
 obtain ⟨cn, cm⟩ := cnm
 have HCALL := Lib.hid hcall
 simp only at *
 clear hcall
 have H := Lib.hid h
 have hP := lt_of_heap h.blk
 have hgl := h.lt
 have hin := h.inb
 have HN := Lib.hid hm
 have HE := Lib.hid hE
 have IH := Lib.hid ih
 clear h hm hE ih
 go_enter Tryz.func152, Tryz.ntmps152
 go_wp2_with fail
 have f0 : Fr [] w (w.alloc (.cells #[.int .i64 0, .int .i64 0, .string ⟨#[]⟩, .int .i64 0, .string ⟨#[]⟩, .slice none 0 0, .slice none 0 0, .slice none 0 0] 27)) := (Fr.refl [] w).alloc _
 have g0 := heap_new w (.cells #[.int .i64 0, .int .i64 0, .string ⟨#[]⟩, .int .i64 0, .string ⟨#[]⟩, .slice none 0 0, .slice none 0 0, .slice none 0 0] 27)
 generalize w.alloc (.cells #[.int .i64 0, .int .i64 0, .string ⟨#[]⟩, .int .i64 0, .string ⟨#[]⟩, .slice none 0 0, .slice none 0 0, .slice none 0 0] 27) = w1 at *
 generalize hB : w.heap.size = B at *
 have hB1 := lt_of_heap g0
 have nP : ¬ P = B := by omega
 have nB : ¬ B = P := by omega
 have ng : ¬ g = B := by omega
 refine (now_any P g c ts st t ht w1 (H.out.fr f0) HE.out).mono ?_
 rintro e x3 ⟨rfl, f3⟩
 have hTB := lt_of_heap (f3.keep g0 (fun x => by cases x))
 have h3 := H.out.fr (f0.trans f3)
 have hP3 := lt_of_heap h3.blk
 have q3 := heap_new x3 (.cells #[.int .i64 t.k, .int .i64 t.at', .string ⟨t.text.toArray⟩, .int .i64 t.n] 46)
 have fb4 : Fr [] x3 (x3.alloc (.cells #[.int .i64 t.k, .int .i64 t.at', .string ⟨t.text.toArray⟩, .int .i64 t.n] 46)) := (Fr.refl [] x3).alloc _
 have f4 := (f0.trans f3).trans fb4
 have g0 := (f3.trans fb4).keep g0 (fun x => by cases x)
 have h4 := H.out.fr f4
 obtain ⟨p0, p1, p2, _⟩ := cells3 h3.blk
 have hT4 := lt_of_heap q3
 clear h3 fb4
 have HT := Lib.hid ht
 have hok := HOK.out
 rw [hok] at p2
 clear hok
 clear ht
 go_wp2_with fail
 refine (cc _).out.mono ?_; rintro e y4 ⟨rfl, rfl⟩
 go_wp2_with fail
 clear p0 p1 p2 
 generalize x3.alloc (.cells #[.int .i64 t.k, .int .i64 t.at', .string ⟨t.text.toArray⟩, .int .i64 t.n] 46) = x4 at *
 generalize x3.heap.size = TT at *
 have hs5 := lt_of_heap g0
 refine (IH.out.post P g c st x4 h4 (by have := HN.out; omega)).mono ?_
 rintro e x1 ⟨k1, a1, nm1, n1, s1, ls1, args1, arms1, A51, n51, c51, A61, n61, c61, A71, n71, c71, st1, rfl, hx1, hr1, hst1, f1⟩
 have g0 := f1.keep g0 (by simpa using nB)
 have hGx := g0
 have hs1 := f1.size
 have F1 : Fr [P] w x1 := (f4.mono (fun x hx => by cases hx)).trans f1
 have hle := hr1.le
 clear q3 hT4 f4 h4 cc
 go_wp2_with fail
 have q1 := heap_new x1 (.cells #[.int .i64 k1, .int .i64 a1, .string ⟨nm1.toArray⟩, .int .i64 n1, .string ⟨s1.toArray⟩, .slice A51 n51 c51, .slice A61 n61 c61, .slice A71 n71 c71] 27)
 have fb1 : Fr [] x1 (x1.alloc (.cells #[.int .i64 k1, .int .i64 a1, .string ⟨nm1.toArray⟩, .int .i64 n1, .string ⟨s1.toArray⟩, .slice A51 n51 c51, .slice A61 n61 c61, .slice A71 n71 c71] 27)) := (Fr.refl [] x1).alloc _
 generalize hY1 : x1.alloc (.cells #[.int .i64 k1, .int .i64 a1, .string ⟨nm1.toArray⟩, .int .i64 n1, .string ⟨s1.toArray⟩, .slice A51 n51 c51, .slice A61 n61 c61, .slice A71 n71 c71] 27) = x2 at *
 have hT1 := lt_of_heap q1
 generalize hTT1 : x1.heap.size = T7 at *
 have g0 := fb1.keep g0 (fun x => by cases x)
 have h2 := hst1.fr fb1
 have F2 := F1.trans0 fb1
 have hx1 := hx1.keep (ok' := fun b => B < b ∧ ¬ b = T7 ∧ ¬ b = P) (Sh.of_fr fb1 (fun b hb hlt => ⟨⟨by omega, by omega, by omega⟩, fun x => by cases x⟩))
 have HR0 : Hid (∀ x st', Run ts (body (.appL (.mk k1 a1 nm1 n1 s1 ls1 args1 arms1))) st1 (.e x) st' → Run ts (body .app) st (.e x) st') := Lib.hid (fun x st' h => .look HT.out (by rw [HOK.out, if_neg (by simp), if_neg (by simp)]; exact (.callE hr1 (.callE h .retE))))
 have hBT : B < T7 := by have := lt_of_heap hGx; omega
 clear hst1 hr1 fb1 f1 F1 hs1 H hGx
 go_loopw [] (fun wr => ∃ (k0 a0 : Int) (nm0 : List UInt8) (n0 : Int) (s0 : List UInt8) (ls0 : List (List UInt8)) (args0 : List ExprT) (arms0 : List (PatT × ExprT)) (A50 : Option Addr) (n50 c50 : Nat) (A60 : Option Addr) (n60 c60 : Nat) (A70 : Option Addr) (n70 c70 : Nat) (st0 : St), Fr [P] w wr ∧ B < T7 ∧ T7 < wr.heap.size ∧ wr.heap[B]? = some (.cells #[.int .i64 0, .int .i64 0, .string ⟨#[]⟩, .int .i64 0, .string ⟨#[]⟩, .slice none 0 0, .slice none 0 0, .slice none 0 0] 27 (0, 0)) ∧ wr.heap[T7]? = some (.cells #[.int .i64 k0, .int .i64 a0, .string ⟨nm0.toArray⟩, .int .i64 n0, .string ⟨s0.toArray⟩, .slice A50 n50 c50, .slice A60 n60 c60, .slice A70 n70 c70] 27 (0, 0)) ∧ ExprAt wr (fun b => B < b ∧ ¬ b = T7 ∧ ¬ b = P) (.mk k0 a0 nm0 n0 s0 ls0 args0 arms0) [.int .i64 k0, .int .i64 a0, .string ⟨nm0.toArray⟩, .int .i64 n0, .string ⟨s0.toArray⟩, .slice A50 n50 c50, .slice A60 n60 c60, .slice A70 n70 c70] ∧ PSt P g c ts st0 wr ∧ st.i ≤ st0.i ∧ Hid (∀ x st', Run ts (body (.appL (.mk k0 a0 nm0 n0 s0 ls0 args0 arms0))) st0 (.e x) st' → Run ts (body .app) st (.e x) st')) (fun wr => ts.length - plI wr P)
 case atStart => exact ⟨k1, a1, nm1, n1, s1, ls1, args1, arms1, A51, n51, c51, A61, n61, c61, A71, n71, c71, st1, F2, hBT, hT1, g0, q1, hx1, h2, hle, HR0⟩
 case round =>
  obtain ⟨k0, a0, nm0, n0, s0, ls0, args0, arms0, A50, n50, c50, A60, n60, c60, A70, n70, c70, st0, F, _, hT, g0, q0, hx0, h0, hle0, HR⟩ := hrel
  clear hx1 h2 HR0 q1 F2 hle hT1
  obtain ⟨u, hu⟩ := tok_at h0.inb
  have ci := fun w h => Lib.hid (begins_any P g c ts st0 u hu w h HE.out)
  cases hc : beginsB u st0.ok with
  | false =>
   rw [hc] at ci
   go_wp2_with fail
   refine (ci _ h0).out.mono ?_; rintro e y1 ⟨rfl, f1⟩
   have g0 := f1.keep g0 (fun x => by cases x)
   obtain ⟨⟨l0, l1, l2, l3, l4, l5, l6, l7⟩, _⟩ := cells8 (f1.keep q0 (fun x => by cases x))
   have hx0 := hx0.keep (ok' := fun b => B < b) (Sh.of_fr f1 (fun b hb hlt => ⟨hb.1, fun x => by cases x⟩))
   have HG := Lib.hid (st8_heap g0 (.int .i64 k0) (.int .i64 a0) (.string ⟨nm0.toArray⟩) (.int .i64 n0) (.string ⟨s0.toArray⟩) (.slice A50 n50 c50) (.slice A60 n60 c60) (.slice A70 n70 c70))
   have HF := Lib.hid ((F.trans0 f1).step (st8_fr y1 B (.int .i64 k0) (.int .i64 a0) (.string ⟨nm0.toArray⟩) (.int .i64 n0) (.string ⟨s0.toArray⟩) (.slice A50 n50 c50) (.slice A60 n60 c60) (.slice A70 n70 c70)) (fun x hx => .inr (by simp at hx; omega)))
   have HP := Lib.hid (((h0.fr f1)).frL (st8_fr y1 B (.int .i64 k0) (.int .i64 a0) (.string ⟨nm0.toArray⟩) (.int .i64 n0) (.string ⟨s0.toArray⟩) (.slice A50 n50 c50) (.slice A60 n60 c60) (.slice A70 n70 c70)) (by simpa using nP) (by simpa using ng))
   have HX : Hid (ExprAt (st8 y1 B (.int .i64 k0) (.int .i64 a0) (.string ⟨nm0.toArray⟩) (.int .i64 n0) (.string ⟨s0.toArray⟩) (.slice A50 n50 c50) (.slice A60 n60 c60) (.slice A70 n70 c70)) (fun b => B ≤ b) (.mk k0 a0 nm0 n0 s0 ls0 args0 arms0) [.int .i64 k0, .int .i64 a0, .string ⟨nm0.toArray⟩, .int .i64 n0, .string ⟨s0.toArray⟩, .slice A50 n50 c50, .slice A60 n60 c60, .slice A70 n70 c70]) := Lib.hid ((hx0).keep (Sh.of_fr (st8_fr y1 B (.int .i64 k0) (.int .i64 a0) (.string ⟨nm0.toArray⟩) (.int .i64 n0) (.string ⟨s0.toArray⟩) (.slice A50 n50 c50) (.slice A60 n60 c60) (.slice A70 n70 c70)) (fun b hb hlt => ⟨by omega, by simp; omega⟩)))
   unfold st8 at HG HF HP HX
   obtain ⟨⟨u0, u1, u2, u3, u4, u5, u6, u7⟩, z0, z1, z2, z3, z4, z5, z6, z7⟩ := cells8 g0
   go_wp2_with fail
   generalize (((((((y1.setCell ⟨B, 0, none⟩ (.int .i64 k0)).setCell ⟨B, 1, none⟩ (.int .i64 a0)).setCell ⟨B, 2, none⟩ (.string ⟨nm0.toArray⟩)).setCell ⟨B, 3, none⟩ (.int .i64 n0)).setCell ⟨B, 4, none⟩ (.string ⟨s0.toArray⟩)).setCell ⟨B, 5, none⟩ (.slice A50 n50 c50)).setCell ⟨B, 6, none⟩ (.slice A60 n60 c60)).setCell ⟨B, 7, none⟩ (.slice A70 n70 c70) = Z at HG HF HP HX ⊢
   obtain ⟨⟨d0, d1, d2, d3, d4, d5, d6, d7⟩, _⟩ := cells8 HG.out
   refine bodyPost_ret (v := .agg #[.int .i64 k0, .int .i64 a0, .string ⟨nm0.toArray⟩, .int .i64 n0, .string ⟨s0.toArray⟩, .slice A50 n50 c50, .slice A60 n60 c60, .slice A70 n70 c70]) ?_ rfl ?_
   ·simp [results, Tryz.f152, go_sem, d0, d1, d2, d3, d4, d5, d6, d7]
   ·exact ⟨_, _, _, _, _, _, _, _, _, _, _, _, _, _, _, _, _, _, rfl, by rw [hB]; exact HX.out, HR.out _ _ (.look hu (by rw [hc, if_neg (by decide)]; exact .retE)), HP.out, HF.out⟩
  | true =>
   rw [hc] at ci
   have HK0 := Lib.hid (begins_ok' hc)
   go_wp2_with fail
   refine (ci _ h0).out.mono ?_; rintro e y3 ⟨rfl, f1⟩; go_wp2_with fail
   have h3 := h0.fr f1
   have g0 := f1.keep g0 (fun x => by cases x)
   have q0 := f1.keep q0 (fun x => by cases x)
   have F3 := F.trans0 f1
   have hT7 := lt_of_heap q0
   have hx0 := hx0.keep (ok' := fun b => B < b ∧ ¬ b = T7 ∧ ¬ b = P ∧ b < y3.heap.size) (Sh.of_fr f1 (fun b hb hlt => ⟨⟨hb.1, hb.2.1, hb.2.2, by have := f1.size; omega⟩, fun x => by cases x⟩))
   have cE := fun W hW => Lib.hid (IH.out.post P g c st0 W hW (by have := HN.out; have := h3.inb; omega))
   obtain ⟨⟨l0, l1, l2, l3, l4, l5, l6, l7⟩, _⟩ := cells8 q0
   clear f1 ci
   have HH3 := Lib.hid h3
   have HX0 := Lib.hid hx0
   clear h3 hx0
   refine wp_region_last8 (fun w' => (w'.cell? ⟨T7, 0, none⟩ = some (.int .i64 k0) ∧ w'.cell? ⟨T7, 1, none⟩ = some (.int .i64 a0) ∧ w'.cell? ⟨T7, 2, none⟩ = some (.string ⟨nm0.toArray⟩) ∧ w'.cell? ⟨T7, 3, none⟩ = some (.int .i64 n0) ∧ w'.cell? ⟨T7, 4, none⟩ = some (.string ⟨s0.toArray⟩) ∧ w'.cell? ⟨T7, 5, none⟩ = some (.slice A50 n50 c50) ∧ w'.cell? ⟨T7, 6, none⟩ = some (.slice A60 n60 c60) ∧ w'.cell? ⟨T7, 7, none⟩ = some (.slice A70 n70 c70))) (by kernel_rfl) (by kernel_rfl) ?hS0 (fun K hK hHeld => ?hr0)
   case hS0 => go_keep
   refine held_take (i := 0) (v := ?v1) rfl (by kernel_rfl) (by kernel_rfl) (by kernel_rfl) (fun _ _ _ h => h) (Or.inl ⟨by rfl, ?hy1⟩) (by assumption) ?hr1
   case hy1 =>
    intro w' hSw
    (try dsimp only at hSw)
    go_simp
    (try with_reducible rfl)
   (try simp only [Act.put, List.setIfInBounds_toArray, List.set_cons_zero, List.set_cons_succ])
   refine held_take (i := 1) (v := ?v2) rfl (by kernel_rfl) (by kernel_rfl) (by kernel_rfl) (fun _ _ _ h => h) (Or.inl ⟨by rfl, ?hy2⟩) (by assumption) ?hr2
   case hy2 =>
    intro w' hSw
    (try dsimp only at hSw)
    go_simp
    (try with_reducible rfl)
   (try simp only [Act.put, List.setIfInBounds_toArray, List.set_cons_zero, List.set_cons_succ])
   refine held_take (i := 2) (v := ?v3) rfl (by kernel_rfl) (by kernel_rfl) (by kernel_rfl) (fun _ _ _ h => h) (Or.inl ⟨by rfl, ?hy3⟩) (by assumption) ?hr3
   case hy3 =>
    intro w' hSw
    (try dsimp only at hSw)
    go_simp
    (try with_reducible rfl)
   (try simp only [Act.put, List.setIfInBounds_toArray, List.set_cons_zero, List.set_cons_succ])
   refine held_take (i := 3) (v := ?v4) rfl (by kernel_rfl) (by kernel_rfl) (by kernel_rfl) (fun _ _ _ h => h) (Or.inl ⟨by rfl, ?hy4⟩) (by assumption) ?hr4
   case hy4 =>
    intro w' hSw
    (try dsimp only at hSw)
    go_simp
    (try with_reducible rfl)
   (try simp only [Act.put, List.setIfInBounds_toArray, List.set_cons_zero, List.set_cons_succ])
   refine held_step (i := 4) rfl (by kernel_rfl) (fun K4 hK4 => ?hr5)
   go_simp
   refine (cE _ (HH3.out.fr (Fr.refl [] y3).drew)).out.mono ?_
   rintro e y4 ⟨k2, a2, nm2, n2, s2, ls2, args2, arms2, A52, n52, c52, A62, n62, c62, A72, n72, c72, st2, rfl, hx2, hr2, hst2, f4⟩
   have Q4 := f4.keep (w := y3.drew) q0 (by simp; omega)
   have hT44 := lt_of_heap Q4
   obtain ⟨⟨u0, u1, u2, u3, u4, u5, u6, u7⟩, z0, z1, z2, z3, z4, z5, z6, z7⟩ := cells8 Q4
   go_simp
   refine hK4.out _ _ ?hS5 (fun hHeld => ?hq5)
   case hS5 => exact (cells8 Q4).1
   clear hK4 K4
   (try simp only [Act.put, List.setIfInBounds_toArray, List.set_cons_zero, List.set_cons_succ])
   refine held_step (i := 5) rfl (by kernel_rfl) (fun K5 hK5 => ?hr6)
   go_simp
   refine hK5.out _ _ ?hS6 (fun hHeld => ?hq6)
   case hS6 => exact (cells8 (heap_old Q4 _)).1
   clear hK5 K5
   (try simp only [Act.put, List.setIfInBounds_toArray, List.set_cons_zero, List.set_cons_succ])
   refine held_take (i := 6) (v := ?v7) rfl (by kernel_rfl) (by kernel_rfl) (by kernel_rfl) (fun _ _ _ h => h) (Or.inl ⟨by rfl, ?hy7⟩) (by assumption) ?hr7
   case hy7 =>
    intro w' hSw
    (try dsimp only at hSw)
    go_simp
    (try with_reducible rfl)
   (try simp only [Act.put, List.setIfInBounds_toArray, List.set_cons_zero, List.set_cons_succ])
   refine wpAnyH_done (by kernel_rfl) ?hr8 _
   refine thenLast_run rfl ?hq8
   go_simp
   refine hK.out _ _ ?hs8
   clear hK K
   all_goals
    have hx0 := HX0.out
    have h3 := HH3.out
    clear u0 u1 u2 u3 u4 u5 u6 u7 z0 z1 z2 z3 z4 z5 z6 z7 l0 l1 l2 l3 l4 l5 l6 l7 HX0 HH3
    have f4 : Fr [P] y3 y4 := ((Fr.refl [P] y3).drew).trans f4
    have hs4 := f4.size
    have hx0 := hx0.keep (ok' := fun b => B < b ∧ ¬ b = T7 ∧ ¬ b = P) (Sh.of_fr f4 (fun b hb hlt => ⟨⟨hb.1, hb.2.1, hb.2.2.1⟩, by simp; omega⟩))
    have hx2 := hx2.keep (ok' := fun b => B < b ∧ ¬ b = T7 ∧ ¬ b = P) (Sh.of_fr (Fr.refl [] y4) (fun b hb hlt => ⟨by have : y3.heap.size ≤ b := hb; exact ⟨by omega, by omega, by omega⟩, fun x => by cases x⟩))
    have g0 := f4.keep g0 (by simpa using nB)
    have hne4 : ¬ B = T7 := by omega
    have hle2 := hr2.le
    have HG := Lib.hid (st8_heap Q4 (.int .i64 8) (.int .i64 a0) (.string ⟨#[]⟩) (.int .i64 0) (.string ⟨#[]⟩) (.slice none 0 0) (.slice (some ⟨y4.heap.size, 0, none⟩) 2 2) (.slice none 0 0))
    have HB0 := Lib.hid ((st8_fr y4 T7 (.int .i64 8) (.int .i64 a0) (.string ⟨#[]⟩) (.int .i64 0) (.string ⟨#[]⟩) (.slice none 0 0) (.slice (some ⟨y4.heap.size, 0, none⟩) 2 2) (.slice none 0 0)).keep g0 (by simp; omega))
    have HF := Lib.hid ((F3.trans f4).step (st8_fr y4 T7 (.int .i64 8) (.int .i64 a0) (.string ⟨#[]⟩) (.int .i64 0) (.string ⟨#[]⟩) (.slice none 0 0) (.slice (some ⟨y4.heap.size, 0, none⟩) 2 2) (.slice none 0 0)) (fun x hx => .inr (by simp at hx; omega)))
    have HP := Lib.hid ((hst2).frL (st8_fr y4 T7 (.int .i64 8) (.int .i64 a0) (.string ⟨#[]⟩) (.int .i64 0) (.string ⟨#[]⟩) (.slice none 0 0) (.slice (some ⟨y4.heap.size, 0, none⟩) 2 2) (.slice none 0 0)) (by simp; omega) (by simp; omega))
    have HS := Lib.hid (st8_size y4 T7 (.int .i64 8) (.int .i64 a0) (.string ⟨#[]⟩) (.int .i64 0) (.string ⟨#[]⟩) (.slice none 0 0) (.slice (some ⟨y4.heap.size, 0, none⟩) 2 2) (.slice none 0 0))
    have HX0 : Hid (ExprAt (st8 y4 T7 (.int .i64 8) (.int .i64 a0) (.string ⟨#[]⟩) (.int .i64 0) (.string ⟨#[]⟩) (.slice none 0 0) (.slice (some ⟨y4.heap.size, 0, none⟩) 2 2) (.slice none 0 0)) (fun b => B < b ∧ ¬ b = T7 ∧ ¬ b = P) (.mk k0 a0 nm0 n0 s0 ls0 args0 arms0) [.int .i64 k0, .int .i64 a0, .string ⟨nm0.toArray⟩, .int .i64 n0, .string ⟨s0.toArray⟩, .slice A50 n50 c50, .slice A60 n60 c60, .slice A70 n70 c70]) := Lib.hid ((hx0).keep (Sh.of_fr (st8_fr y4 T7 (.int .i64 8) (.int .i64 a0) (.string ⟨#[]⟩) (.int .i64 0) (.string ⟨#[]⟩) (.slice none 0 0) (.slice (some ⟨y4.heap.size, 0, none⟩) 2 2) (.slice none 0 0)) (fun b hb hlt => ⟨hb, by simp; exact hb.2.1⟩)))
    have HX2 : Hid (ExprAt (st8 y4 T7 (.int .i64 8) (.int .i64 a0) (.string ⟨#[]⟩) (.int .i64 0) (.string ⟨#[]⟩) (.slice none 0 0) (.slice (some ⟨y4.heap.size, 0, none⟩) 2 2) (.slice none 0 0)) (fun b => B < b ∧ ¬ b = T7 ∧ ¬ b = P) (.mk k2 a2 nm2 n2 s2 ls2 args2 arms2) [.int .i64 k2, .int .i64 a2, .string ⟨nm2.toArray⟩, .int .i64 n2, .string ⟨s2.toArray⟩, .slice A52 n52 c52, .slice A62 n62 c62, .slice A72 n72 c72]) := Lib.hid ((hx2).keep (Sh.of_fr (st8_fr y4 T7 (.int .i64 8) (.int .i64 a0) (.string ⟨#[]⟩) (.int .i64 0) (.string ⟨#[]⟩) (.slice none 0 0) (.slice (some ⟨y4.heap.size, 0, none⟩) 2 2) (.slice none 0 0)) (fun b hb hlt => ⟨hb, by simp; exact hb.2.1⟩)))
    unfold st8 at HG HB0 HF HP HS HX0 HX2
    go_wp2_with fail
    generalize (((((((y4.setCell ⟨T7, 0, none⟩ (.int .i64 8)).setCell ⟨T7, 1, none⟩ (.int .i64 a0)).setCell ⟨T7, 2, none⟩ (.string ⟨#[]⟩)).setCell ⟨T7, 3, none⟩ (.int .i64 0)).setCell ⟨T7, 4, none⟩ (.string ⟨#[]⟩)).setCell ⟨T7, 5, none⟩ (.slice none 0 0)).setCell ⟨T7, 6, none⟩ (.slice (some ⟨y4.heap.size, 0, none⟩) 2 2)).setCell ⟨T7, 7, none⟩ (.slice none 0 0) = Z at HG HB0 HF HP HS HX0 HX2 ⊢
    have hZ4 := lt_of_heap HG.out
    have row := RowG.lit2 keepsE (T := 27) (size := 8) (ok := fun b => B < b ∧ ¬ b = T7 ∧ ¬ b = P) HX0.out HX2.out rfl rfl (by exact ⟨by omega, by omega, by omega⟩)
    rw [HS.out] at row
    have hxx := ExprAt.of_rows (k := 8) (a := a0) (nm := []) (n := 0) (s := []) (c5 := fun _ => []) (c7 := fun _ => []) RowG.nil_ row RowG.nil_
    have hPz := HP.out.fr ((Fr.refl [] Z).alloc (.cells #[.int .i64 k0, .int .i64 a0, .string ⟨nm0.toArray⟩, .int .i64 n0, .string ⟨s0.toArray⟩, .slice A50 n50 c50, .slice A60 n60 c60, .slice A70 n70 c70, .int .i64 k2, .int .i64 a2, .string ⟨nm2.toArray⟩, .int .i64 n2, .string ⟨s2.toArray⟩, .slice A52 n52 c52, .slice A62 n62 c62, .slice A72 n72 c72] 27))
    have hpl := hPz.pl
    have hpl0 := h0.pl
    have hin0 := h0.inb
    have hin2 := hst2.inb
    have hgo : st0.i < st2.i := Nat.lt_of_lt_of_le (takes_begins hu hc hr2) (Nat.le_refl _)
    go_roundw
    case rel => exact ⟨8, a0, [], 0, [], [], [(.mk k0 a0 nm0 n0 s0 ls0 args0 arms0), (.mk k2 a2 nm2 n2 s2 ls2 args2 arms2)], [], none, 0, 0, some ⟨y4.heap.size, 0, none⟩, 2, 2, none, 0, 0, st2, HF.out.alloc _, hBT, by simp; omega, heap_old HB0.out _, heap_old HG.out _, hxx, hPz, by omega, Lib.hid (fun x st' h => HR.out _ _ (.look hu (by rw [hc, if_pos rfl]; exact .callE hr2 (.callE h .retE))))⟩
    case measure => rw [hpl, hpl0]; omega
end Go.Proofs.YtpjkfeehgookkaaGreatDoor
namespace Go.Proofs.YtpjkfeehgookkaaGreatDoor
open Go.RowKit
attribute [local go_sem ↓] Go.wp_at_zero Go.wp_at_succ
set_option maxHeartbeats 8000000 in
set_option maxRecDepth 100000 in
theorem app_app2 (ts : List Tok) (hE : EndOk ts) (N : Nat) (ih : AllE ts N) (P g c : Nat) (st : St) (w : World) (h : PSt P g c ts st w) (hm : 16 * (ts.length - st.i) + 5 < N + 1) (t : Tok) (ht : ts[st.i]? = some t) (hok : st.ok = true) (hk3 : (t.k == 3) = false) (hk6 : (t.k == 6) = false) : Calls Tryz.prog 152 #[.pointer (some ⟨P, 0, none⟩)] w (ExOk P g c ts st (body .app) w) := by
 have HOK := Lib.hid hok
 have HK3 := Lib.hid hk3
 have HK6 := Lib.hid hk6
 clear hok hk3 hk6
 have cc := fun w => Lib.hid (called_any t.text w)
 generalize hcall : calledOf t.text = cnm at *
 obtain ⟨cn, cm⟩ := cnm
 have HCALL := Lib.hid hcall
 simp only at *
 clear hcall
 have H := Lib.hid h
 have hP := lt_of_heap h.blk
 have hgl := h.lt
 have hin := h.inb
 have HN := Lib.hid hm
 have HE := Lib.hid hE
 have IH := Lib.hid ih
 clear h hm hE ih
 go_enter Tryz.func152, Tryz.ntmps152
 go_wp2_with fail
 have f0 : Fr [] w (w.alloc (.cells #[.int .i64 0, .int .i64 0, .string ⟨#[]⟩, .int .i64 0, .string ⟨#[]⟩, .slice none 0 0, .slice none 0 0, .slice none 0 0] 27)) := (Fr.refl [] w).alloc _
 have g0 := heap_new w (.cells #[.int .i64 0, .int .i64 0, .string ⟨#[]⟩, .int .i64 0, .string ⟨#[]⟩, .slice none 0 0, .slice none 0 0, .slice none 0 0] 27)
 generalize w.alloc (.cells #[.int .i64 0, .int .i64 0, .string ⟨#[]⟩, .int .i64 0, .string ⟨#[]⟩, .slice none 0 0, .slice none 0 0, .slice none 0 0] 27) = w1 at *
 generalize hB : w.heap.size = B at *
 have hB1 := lt_of_heap g0
 have nP : ¬ P = B := by omega
 have nB : ¬ B = P := by omega
 have ng : ¬ g = B := by omega
 refine (now_any P g c ts st t ht w1 (H.out.fr f0) HE.out).mono ?_
 rintro e x3 ⟨rfl, f3⟩
 have hTB := lt_of_heap (f3.keep g0 (fun x => by cases x))
 have h3 := H.out.fr (f0.trans f3)
 have hP3 := lt_of_heap h3.blk
 have q3 := heap_new x3 (.cells #[.int .i64 t.k, .int .i64 t.at', .string ⟨t.text.toArray⟩, .int .i64 t.n] 46)
 have fb4 : Fr [] x3 (x3.alloc (.cells #[.int .i64 t.k, .int .i64 t.at', .string ⟨t.text.toArray⟩, .int .i64 t.n] 46)) := (Fr.refl [] x3).alloc _
 have f4 := (f0.trans f3).trans fb4
 have g0 := (f3.trans fb4).keep g0 (fun x => by cases x)
 have h4 := H.out.fr f4
 obtain ⟨p0, p1, p2, _⟩ := cells3 h3.blk
 have hT4 := lt_of_heap q3
 clear h3 fb4
 have HT := Lib.hid ht
 have hok := HOK.out
 rw [hok] at p2
 have hk3 := HK3.out
 have hk6 := HK6.out
 clear hok
 clear ht
 go_wp2_with fail
 refine (cc _).out.mono ?_; rintro e y4 ⟨rfl, rfl⟩
 go_wp2_with fail
 clear p0 p1 p2 hk3 hk6
 generalize x3.alloc (.cells #[.int .i64 t.k, .int .i64 t.at', .string ⟨t.text.toArray⟩, .int .i64 t.n] 46) = x4 at *
 generalize x3.heap.size = TT at *
 have hs5 := lt_of_heap g0
 refine (IH.out.post P g c st x4 h4 (by have := HN.out; omega)).mono ?_
 rintro e x1 ⟨k1, a1, nm1, n1, s1, ls1, args1, arms1, A51, n51, c51, A61, n61, c61, A71, n71, c71, st1, rfl, hx1, hr1, hst1, f1⟩
 have g0 := f1.keep g0 (by simpa using nB)
 have hGx := g0
 have hs1 := f1.size
 have F1 : Fr [P] w x1 := (f4.mono (fun x hx => by cases hx)).trans f1
 have hle := hr1.le
 clear q3 hT4 f4 h4 cc
 go_wp2_with fail
 have q1 := heap_new x1 (.cells #[.int .i64 k1, .int .i64 a1, .string ⟨nm1.toArray⟩, .int .i64 n1, .string ⟨s1.toArray⟩, .slice A51 n51 c51, .slice A61 n61 c61, .slice A71 n71 c71] 27)
 have fb1 : Fr [] x1 (x1.alloc (.cells #[.int .i64 k1, .int .i64 a1, .string ⟨nm1.toArray⟩, .int .i64 n1, .string ⟨s1.toArray⟩, .slice A51 n51 c51, .slice A61 n61 c61, .slice A71 n71 c71] 27)) := (Fr.refl [] x1).alloc _
 generalize hY1 : x1.alloc (.cells #[.int .i64 k1, .int .i64 a1, .string ⟨nm1.toArray⟩, .int .i64 n1, .string ⟨s1.toArray⟩, .slice A51 n51 c51, .slice A61 n61 c61, .slice A71 n71 c71] 27) = x2 at *
 have hT1 := lt_of_heap q1
 generalize hTT1 : x1.heap.size = T7 at *
 have g0 := fb1.keep g0 (fun x => by cases x)
 have h2 := hst1.fr fb1
 have F2 := F1.trans0 fb1
 have hx1 := hx1.keep (ok' := fun b => B < b ∧ ¬ b = T7 ∧ ¬ b = P) (Sh.of_fr fb1 (fun b hb hlt => ⟨⟨by omega, by omega, by omega⟩, fun x => by cases x⟩))
 have HR0 : Hid (∀ x st', Run ts (body (.appL (.mk k1 a1 nm1 n1 s1 ls1 args1 arms1))) st1 (.e x) st' → Run ts (body .app) st (.e x) st') := Lib.hid (fun x st' h => .look HT.out (by rw [HK3.out, HK6.out, if_neg (by simp), if_neg (by simp)]; exact (.callE hr1 (.callE h .retE))))
 have hBT : B < T7 := by have := lt_of_heap hGx; omega
 clear hst1 hr1 fb1 f1 F1 hs1 H hGx
 go_loopw [] (fun wr => ∃ (k0 a0 : Int) (nm0 : List UInt8) (n0 : Int) (s0 : List UInt8) (ls0 : List (List UInt8)) (args0 : List ExprT) (arms0 : List (PatT × ExprT)) (A50 : Option Addr) (n50 c50 : Nat) (A60 : Option Addr) (n60 c60 : Nat) (A70 : Option Addr) (n70 c70 : Nat) (st0 : St), Fr [P] w wr ∧ B < T7 ∧ T7 < wr.heap.size ∧ wr.heap[B]? = some (.cells #[.int .i64 0, .int .i64 0, .string ⟨#[]⟩, .int .i64 0, .string ⟨#[]⟩, .slice none 0 0, .slice none 0 0, .slice none 0 0] 27 (0, 0)) ∧ wr.heap[T7]? = some (.cells #[.int .i64 k0, .int .i64 a0, .string ⟨nm0.toArray⟩, .int .i64 n0, .string ⟨s0.toArray⟩, .slice A50 n50 c50, .slice A60 n60 c60, .slice A70 n70 c70] 27 (0, 0)) ∧ ExprAt wr (fun b => B < b ∧ ¬ b = T7 ∧ ¬ b = P) (.mk k0 a0 nm0 n0 s0 ls0 args0 arms0) [.int .i64 k0, .int .i64 a0, .string ⟨nm0.toArray⟩, .int .i64 n0, .string ⟨s0.toArray⟩, .slice A50 n50 c50, .slice A60 n60 c60, .slice A70 n70 c70] ∧ PSt P g c ts st0 wr ∧ st.i ≤ st0.i ∧ Hid (∀ x st', Run ts (body (.appL (.mk k0 a0 nm0 n0 s0 ls0 args0 arms0))) st0 (.e x) st' → Run ts (body .app) st (.e x) st')) (fun wr => ts.length - plI wr P)
 case atStart => exact ⟨k1, a1, nm1, n1, s1, ls1, args1, arms1, A51, n51, c51, A61, n61, c61, A71, n71, c71, st1, F2, hBT, hT1, g0, q1, hx1, h2, hle, HR0⟩
 case round =>
  obtain ⟨k0, a0, nm0, n0, s0, ls0, args0, arms0, A50, n50, c50, A60, n60, c60, A70, n70, c70, st0, F, _, hT, g0, q0, hx0, h0, hle0, HR⟩ := hrel
  clear hx1 h2 HR0 q1 F2 hle hT1
  obtain ⟨u, hu⟩ := tok_at h0.inb
  have ci := fun w h => Lib.hid (begins_any P g c ts st0 u hu w h HE.out)
  cases hc : beginsB u st0.ok with
  | false =>
   rw [hc] at ci
   go_wp2_with fail
   refine (ci _ h0).out.mono ?_; rintro e y1 ⟨rfl, f1⟩
   have g0 := f1.keep g0 (fun x => by cases x)
   obtain ⟨⟨l0, l1, l2, l3, l4, l5, l6, l7⟩, _⟩ := cells8 (f1.keep q0 (fun x => by cases x))
   have hx0 := hx0.keep (ok' := fun b => B < b) (Sh.of_fr f1 (fun b hb hlt => ⟨hb.1, fun x => by cases x⟩))
   have HG := Lib.hid (st8_heap g0 (.int .i64 k0) (.int .i64 a0) (.string ⟨nm0.toArray⟩) (.int .i64 n0) (.string ⟨s0.toArray⟩) (.slice A50 n50 c50) (.slice A60 n60 c60) (.slice A70 n70 c70))
   have HF := Lib.hid ((F.trans0 f1).step (st8_fr y1 B (.int .i64 k0) (.int .i64 a0) (.string ⟨nm0.toArray⟩) (.int .i64 n0) (.string ⟨s0.toArray⟩) (.slice A50 n50 c50) (.slice A60 n60 c60) (.slice A70 n70 c70)) (fun x hx => .inr (by simp at hx; omega)))
   have HP := Lib.hid (((h0.fr f1)).frL (st8_fr y1 B (.int .i64 k0) (.int .i64 a0) (.string ⟨nm0.toArray⟩) (.int .i64 n0) (.string ⟨s0.toArray⟩) (.slice A50 n50 c50) (.slice A60 n60 c60) (.slice A70 n70 c70)) (by simpa using nP) (by simpa using ng))
   have HX : Hid (ExprAt (st8 y1 B (.int .i64 k0) (.int .i64 a0) (.string ⟨nm0.toArray⟩) (.int .i64 n0) (.string ⟨s0.toArray⟩) (.slice A50 n50 c50) (.slice A60 n60 c60) (.slice A70 n70 c70)) (fun b => B ≤ b) (.mk k0 a0 nm0 n0 s0 ls0 args0 arms0) [.int .i64 k0, .int .i64 a0, .string ⟨nm0.toArray⟩, .int .i64 n0, .string ⟨s0.toArray⟩, .slice A50 n50 c50, .slice A60 n60 c60, .slice A70 n70 c70]) := Lib.hid ((hx0).keep (Sh.of_fr (st8_fr y1 B (.int .i64 k0) (.int .i64 a0) (.string ⟨nm0.toArray⟩) (.int .i64 n0) (.string ⟨s0.toArray⟩) (.slice A50 n50 c50) (.slice A60 n60 c60) (.slice A70 n70 c70)) (fun b hb hlt => ⟨by omega, by simp; omega⟩)))
   unfold st8 at HG HF HP HX
   obtain ⟨⟨u0, u1, u2, u3, u4, u5, u6, u7⟩, z0, z1, z2, z3, z4, z5, z6, z7⟩ := cells8 g0
   go_wp2_with fail
   generalize (((((((y1.setCell ⟨B, 0, none⟩ (.int .i64 k0)).setCell ⟨B, 1, none⟩ (.int .i64 a0)).setCell ⟨B, 2, none⟩ (.string ⟨nm0.toArray⟩)).setCell ⟨B, 3, none⟩ (.int .i64 n0)).setCell ⟨B, 4, none⟩ (.string ⟨s0.toArray⟩)).setCell ⟨B, 5, none⟩ (.slice A50 n50 c50)).setCell ⟨B, 6, none⟩ (.slice A60 n60 c60)).setCell ⟨B, 7, none⟩ (.slice A70 n70 c70) = Z at HG HF HP HX ⊢
   obtain ⟨⟨d0, d1, d2, d3, d4, d5, d6, d7⟩, _⟩ := cells8 HG.out
   refine bodyPost_ret (v := .agg #[.int .i64 k0, .int .i64 a0, .string ⟨nm0.toArray⟩, .int .i64 n0, .string ⟨s0.toArray⟩, .slice A50 n50 c50, .slice A60 n60 c60, .slice A70 n70 c70]) ?_ rfl ?_
   ·simp [results, Tryz.f152, go_sem, d0, d1, d2, d3, d4, d5, d6, d7]
   ·exact ⟨_, _, _, _, _, _, _, _, _, _, _, _, _, _, _, _, _, _, rfl, by rw [hB]; exact HX.out, HR.out _ _ (.look hu (by rw [hc, if_neg (by decide)]; exact .retE)), HP.out, HF.out⟩
  | true =>
   rw [hc] at ci
   have HK0 := Lib.hid (begins_ok' hc)
   go_wp2_with fail
   refine (ci _ h0).out.mono ?_; rintro e y3 ⟨rfl, f1⟩; go_wp2_with fail
   have h3 := h0.fr f1
   have g0 := f1.keep g0 (fun x => by cases x)
   have q0 := f1.keep q0 (fun x => by cases x)
   have F3 := F.trans0 f1
   have hT7 := lt_of_heap q0
   have hx0 := hx0.keep (ok' := fun b => B < b ∧ ¬ b = T7 ∧ ¬ b = P ∧ b < y3.heap.size) (Sh.of_fr f1 (fun b hb hlt => ⟨⟨hb.1, hb.2.1, hb.2.2, by have := f1.size; omega⟩, fun x => by cases x⟩))
   have cE := fun W hW => Lib.hid (IH.out.post P g c st0 W hW (by have := HN.out; have := h3.inb; omega))
   obtain ⟨⟨l0, l1, l2, l3, l4, l5, l6, l7⟩, _⟩ := cells8 q0
   clear f1 ci
   have HH3 := Lib.hid h3
   have HX0 := Lib.hid hx0
   clear h3 hx0
   refine wp_region_last8 (fun w' => (w'.cell? ⟨T7, 0, none⟩ = some (.int .i64 k0) ∧ w'.cell? ⟨T7, 1, none⟩ = some (.int .i64 a0) ∧ w'.cell? ⟨T7, 2, none⟩ = some (.string ⟨nm0.toArray⟩) ∧ w'.cell? ⟨T7, 3, none⟩ = some (.int .i64 n0) ∧ w'.cell? ⟨T7, 4, none⟩ = some (.string ⟨s0.toArray⟩) ∧ w'.cell? ⟨T7, 5, none⟩ = some (.slice A50 n50 c50) ∧ w'.cell? ⟨T7, 6, none⟩ = some (.slice A60 n60 c60) ∧ w'.cell? ⟨T7, 7, none⟩ = some (.slice A70 n70 c70))) (by kernel_rfl) (by kernel_rfl) ?hS9 (fun K hK hHeld => ?hr9)
   case hS9 => go_keep
   refine held_take (i := 0) (v := ?v10) rfl (by kernel_rfl) (by kernel_rfl) (by kernel_rfl) (fun _ _ _ h => h) (Or.inl ⟨by rfl, ?hy10⟩) (by assumption) ?hr10
   case hy10 =>
    intro w' hSw
    (try dsimp only at hSw)
    go_simp
    (try with_reducible rfl)
   (try simp only [Act.put, List.setIfInBounds_toArray, List.set_cons_zero, List.set_cons_succ])
   refine held_take (i := 1) (v := ?v11) rfl (by kernel_rfl) (by kernel_rfl) (by kernel_rfl) (fun _ _ _ h => h) (Or.inl ⟨by rfl, ?hy11⟩) (by assumption) ?hr11
   case hy11 =>
    intro w' hSw
    (try dsimp only at hSw)
    go_simp
    (try with_reducible rfl)
   (try simp only [Act.put, List.setIfInBounds_toArray, List.set_cons_zero, List.set_cons_succ])
   refine held_take (i := 2) (v := ?v12) rfl (by kernel_rfl) (by kernel_rfl) (by kernel_rfl) (fun _ _ _ h => h) (Or.inl ⟨by rfl, ?hy12⟩) (by assumption) ?hr12
   case hy12 =>
    intro w' hSw
    (try dsimp only at hSw)
    go_simp
    (try with_reducible rfl)
   (try simp only [Act.put, List.setIfInBounds_toArray, List.set_cons_zero, List.set_cons_succ])
   refine held_take (i := 3) (v := ?v13) rfl (by kernel_rfl) (by kernel_rfl) (by kernel_rfl) (fun _ _ _ h => h) (Or.inl ⟨by rfl, ?hy13⟩) (by assumption) ?hr13
   case hy13 =>
    intro w' hSw
    (try dsimp only at hSw)
    go_simp
    (try with_reducible rfl)
   (try simp only [Act.put, List.setIfInBounds_toArray, List.set_cons_zero, List.set_cons_succ])
   refine held_step (i := 4) rfl (by kernel_rfl) (fun K4 hK4 => ?hr14)
   go_simp
   refine (cE _ (HH3.out.fr (Fr.refl [] y3).drew)).out.mono ?_
   rintro e y4 ⟨k2, a2, nm2, n2, s2, ls2, args2, arms2, A52, n52, c52, A62, n62, c62, A72, n72, c72, st2, rfl, hx2, hr2, hst2, f4⟩
   have Q4 := f4.keep (w := y3.drew) q0 (by simp; omega)
   have hT44 := lt_of_heap Q4
   obtain ⟨⟨u0, u1, u2, u3, u4, u5, u6, u7⟩, z0, z1, z2, z3, z4, z5, z6, z7⟩ := cells8 Q4
   go_simp
   refine hK4.out _ _ ?hS14 (fun hHeld => ?hq14)
   case hS14 => exact (cells8 Q4).1
   clear hK4 K4
   (try simp only [Act.put, List.setIfInBounds_toArray, List.set_cons_zero, List.set_cons_succ])
   refine held_step (i := 5) rfl (by kernel_rfl) (fun K5 hK5 => ?hr15)
   go_simp
   refine hK5.out _ _ ?hS15 (fun hHeld => ?hq15)
   case hS15 => exact (cells8 (heap_old Q4 _)).1
   clear hK5 K5
   (try simp only [Act.put, List.setIfInBounds_toArray, List.set_cons_zero, List.set_cons_succ])
   refine held_take (i := 6) (v := ?v16) rfl (by kernel_rfl) (by kernel_rfl) (by kernel_rfl) (fun _ _ _ h => h) (Or.inl ⟨by rfl, ?hy16⟩) (by assumption) ?hr16
   case hy16 =>
    intro w' hSw
    (try dsimp only at hSw)
    go_simp
    (try with_reducible rfl)
   (try simp only [Act.put, List.setIfInBounds_toArray, List.set_cons_zero, List.set_cons_succ])
   refine wpAnyH_done (by kernel_rfl) ?hr17 _
   refine thenLast_run rfl ?hq17
   go_simp
   refine hK.out _ _ ?hs17
   clear hK K
   all_goals
    have hx0 := HX0.out
    have h3 := HH3.out
    clear u0 u1 u2 u3 u4 u5 u6 u7 z0 z1 z2 z3 z4 z5 z6 z7 l0 l1 l2 l3 l4 l5 l6 l7 HX0 HH3
    have f4 : Fr [P] y3 y4 := ((Fr.refl [P] y3).drew).trans f4
    have hs4 := f4.size
    have hx0 := hx0.keep (ok' := fun b => B < b ∧ ¬ b = T7 ∧ ¬ b = P) (Sh.of_fr f4 (fun b hb hlt => ⟨⟨hb.1, hb.2.1, hb.2.2.1⟩, by simp; omega⟩))
    have hx2 := hx2.keep (ok' := fun b => B < b ∧ ¬ b = T7 ∧ ¬ b = P) (Sh.of_fr (Fr.refl [] y4) (fun b hb hlt => ⟨by have : y3.heap.size ≤ b := hb; exact ⟨by omega, by omega, by omega⟩, fun x => by cases x⟩))
    have g0 := f4.keep g0 (by simpa using nB)
    have hne4 : ¬ B = T7 := by omega
    have hle2 := hr2.le
    have HG := Lib.hid (st8_heap Q4 (.int .i64 8) (.int .i64 a0) (.string ⟨#[]⟩) (.int .i64 0) (.string ⟨#[]⟩) (.slice none 0 0) (.slice (some ⟨y4.heap.size, 0, none⟩) 2 2) (.slice none 0 0))
    have HB0 := Lib.hid ((st8_fr y4 T7 (.int .i64 8) (.int .i64 a0) (.string ⟨#[]⟩) (.int .i64 0) (.string ⟨#[]⟩) (.slice none 0 0) (.slice (some ⟨y4.heap.size, 0, none⟩) 2 2) (.slice none 0 0)).keep g0 (by simp; omega))
    have HF := Lib.hid ((F3.trans f4).step (st8_fr y4 T7 (.int .i64 8) (.int .i64 a0) (.string ⟨#[]⟩) (.int .i64 0) (.string ⟨#[]⟩) (.slice none 0 0) (.slice (some ⟨y4.heap.size, 0, none⟩) 2 2) (.slice none 0 0)) (fun x hx => .inr (by simp at hx; omega)))
    have HP := Lib.hid ((hst2).frL (st8_fr y4 T7 (.int .i64 8) (.int .i64 a0) (.string ⟨#[]⟩) (.int .i64 0) (.string ⟨#[]⟩) (.slice none 0 0) (.slice (some ⟨y4.heap.size, 0, none⟩) 2 2) (.slice none 0 0)) (by simp; omega) (by simp; omega))
    have HS := Lib.hid (st8_size y4 T7 (.int .i64 8) (.int .i64 a0) (.string ⟨#[]⟩) (.int .i64 0) (.string ⟨#[]⟩) (.slice none 0 0) (.slice (some ⟨y4.heap.size, 0, none⟩) 2 2) (.slice none 0 0))
    have HX0 : Hid (ExprAt (st8 y4 T7 (.int .i64 8) (.int .i64 a0) (.string ⟨#[]⟩) (.int .i64 0) (.string ⟨#[]⟩) (.slice none 0 0) (.slice (some ⟨y4.heap.size, 0, none⟩) 2 2) (.slice none 0 0)) (fun b => B < b ∧ ¬ b = T7 ∧ ¬ b = P) (.mk k0 a0 nm0 n0 s0 ls0 args0 arms0) [.int .i64 k0, .int .i64 a0, .string ⟨nm0.toArray⟩, .int .i64 n0, .string ⟨s0.toArray⟩, .slice A50 n50 c50, .slice A60 n60 c60, .slice A70 n70 c70]) := Lib.hid ((hx0).keep (Sh.of_fr (st8_fr y4 T7 (.int .i64 8) (.int .i64 a0) (.string ⟨#[]⟩) (.int .i64 0) (.string ⟨#[]⟩) (.slice none 0 0) (.slice (some ⟨y4.heap.size, 0, none⟩) 2 2) (.slice none 0 0)) (fun b hb hlt => ⟨hb, by simp; exact hb.2.1⟩)))
    have HX2 : Hid (ExprAt (st8 y4 T7 (.int .i64 8) (.int .i64 a0) (.string ⟨#[]⟩) (.int .i64 0) (.string ⟨#[]⟩) (.slice none 0 0) (.slice (some ⟨y4.heap.size, 0, none⟩) 2 2) (.slice none 0 0)) (fun b => B < b ∧ ¬ b = T7 ∧ ¬ b = P) (.mk k2 a2 nm2 n2 s2 ls2 args2 arms2) [.int .i64 k2, .int .i64 a2, .string ⟨nm2.toArray⟩, .int .i64 n2, .string ⟨s2.toArray⟩, .slice A52 n52 c52, .slice A62 n62 c62, .slice A72 n72 c72]) := Lib.hid ((hx2).keep (Sh.of_fr (st8_fr y4 T7 (.int .i64 8) (.int .i64 a0) (.string ⟨#[]⟩) (.int .i64 0) (.string ⟨#[]⟩) (.slice none 0 0) (.slice (some ⟨y4.heap.size, 0, none⟩) 2 2) (.slice none 0 0)) (fun b hb hlt => ⟨hb, by simp; exact hb.2.1⟩)))
    unfold st8 at HG HB0 HF HP HS HX0 HX2
    go_wp2_with fail
    generalize (((((((y4.setCell ⟨T7, 0, none⟩ (.int .i64 8)).setCell ⟨T7, 1, none⟩ (.int .i64 a0)).setCell ⟨T7, 2, none⟩ (.string ⟨#[]⟩)).setCell ⟨T7, 3, none⟩ (.int .i64 0)).setCell ⟨T7, 4, none⟩ (.string ⟨#[]⟩)).setCell ⟨T7, 5, none⟩ (.slice none 0 0)).setCell ⟨T7, 6, none⟩ (.slice (some ⟨y4.heap.size, 0, none⟩) 2 2)).setCell ⟨T7, 7, none⟩ (.slice none 0 0) = Z at HG HB0 HF HP HS HX0 HX2 ⊢
    have hZ4 := lt_of_heap HG.out
    have row := RowG.lit2 keepsE (T := 27) (size := 8) (ok := fun b => B < b ∧ ¬ b = T7 ∧ ¬ b = P) HX0.out HX2.out rfl rfl (by exact ⟨by omega, by omega, by omega⟩)
    rw [HS.out] at row
    have hxx := ExprAt.of_rows (k := 8) (a := a0) (nm := []) (n := 0) (s := []) (c5 := fun _ => []) (c7 := fun _ => []) RowG.nil_ row RowG.nil_
    have hPz := HP.out.fr ((Fr.refl [] Z).alloc (.cells #[.int .i64 k0, .int .i64 a0, .string ⟨nm0.toArray⟩, .int .i64 n0, .string ⟨s0.toArray⟩, .slice A50 n50 c50, .slice A60 n60 c60, .slice A70 n70 c70, .int .i64 k2, .int .i64 a2, .string ⟨nm2.toArray⟩, .int .i64 n2, .string ⟨s2.toArray⟩, .slice A52 n52 c52, .slice A62 n62 c62, .slice A72 n72 c72] 27))
    have hpl := hPz.pl
    have hpl0 := h0.pl
    have hin0 := h0.inb
    have hin2 := hst2.inb
    have hgo : st0.i < st2.i := Nat.lt_of_lt_of_le (takes_begins hu hc hr2) (Nat.le_refl _)
    go_roundw
    case rel => exact ⟨8, a0, [], 0, [], [], [(.mk k0 a0 nm0 n0 s0 ls0 args0 arms0), (.mk k2 a2 nm2 n2 s2 ls2 args2 arms2)], [], none, 0, 0, some ⟨y4.heap.size, 0, none⟩, 2, 2, none, 0, 0, st2, HF.out.alloc _, hBT, by simp; omega, heap_old HB0.out _, heap_old HG.out _, hxx, hPz, by omega, Lib.hid (fun x st' h => HR.out _ _ (.look hu (by rw [hc, if_pos rfl]; exact .callE hr2 (.callE h .retE))))⟩
    case measure => rw [hpl, hpl0]; omega
end Go.Proofs.YtpjkfeehgookkaaGreatDoor
namespace Go.Proofs.YtpjkfeehgookkaaGreatDoor
open Go.RowKit
attribute [local go_sem ↓] Go.wp_at_zero Go.wp_at_succ
set_option maxHeartbeats 8000000 in
set_option maxRecDepth 100000 in
theorem app_app3 (ts : List Tok) (hE : EndOk ts) (N : Nat) (ih : AllE ts N) (P g c : Nat) (st : St) (w : World) (h : PSt P g c ts st w) (hm : 16 * (ts.length - st.i) + 5 < N + 1) (t : Tok) (ht : ts[st.i]? = some t) (hok : st.ok = true) (hk : (t.k == 6) = true) (hcn : ¬ 0 < (calledOf t.text).1) : Calls Tryz.prog 152 #[.pointer (some ⟨P, 0, none⟩)] w (ExOk P g c ts st (body .app) w) := by
 have hk3 : (t.k == 3) = false := by rw [beq_eq_false_iff_ne]; have := beq_iff_eq.1 hk; omega
 have HOK := Lib.hid hok
 have HK3 := Lib.hid hk3
 have HK6 := Lib.hid hk
 have HC : Hid (¬ 0 < (calledOf t.text).1) := Lib.hid hcn
 clear hok hk3 hk hcn
 have cc := fun w => Lib.hid (called_any t.text w)
 generalize hcall : calledOf t.text = cnm at *
 obtain ⟨cn, cm⟩ := cnm
 have HCALL := Lib.hid hcall
 simp only at *
 clear hcall
 have H := Lib.hid h
 have hP := lt_of_heap h.blk
 have hgl := h.lt
 have hin := h.inb
 have HN := Lib.hid hm
 have HE := Lib.hid hE
 have IH := Lib.hid ih
 clear h hm hE ih
 go_enter Tryz.func152, Tryz.ntmps152
 go_wp2_with fail
 have f0 : Fr [] w (w.alloc (.cells #[.int .i64 0, .int .i64 0, .string ⟨#[]⟩, .int .i64 0, .string ⟨#[]⟩, .slice none 0 0, .slice none 0 0, .slice none 0 0] 27)) := (Fr.refl [] w).alloc _
 have g0 := heap_new w (.cells #[.int .i64 0, .int .i64 0, .string ⟨#[]⟩, .int .i64 0, .string ⟨#[]⟩, .slice none 0 0, .slice none 0 0, .slice none 0 0] 27)
 generalize w.alloc (.cells #[.int .i64 0, .int .i64 0, .string ⟨#[]⟩, .int .i64 0, .string ⟨#[]⟩, .slice none 0 0, .slice none 0 0, .slice none 0 0] 27) = w1 at *
 generalize hB : w.heap.size = B at *
 have hB1 := lt_of_heap g0
 have nP : ¬ P = B := by omega
 have nB : ¬ B = P := by omega
 have ng : ¬ g = B := by omega
 refine (now_any P g c ts st t ht w1 (H.out.fr f0) HE.out).mono ?_
 rintro e x3 ⟨rfl, f3⟩
 have hTB := lt_of_heap (f3.keep g0 (fun x => by cases x))
 have h3 := H.out.fr (f0.trans f3)
 have hP3 := lt_of_heap h3.blk
 have q3 := heap_new x3 (.cells #[.int .i64 t.k, .int .i64 t.at', .string ⟨t.text.toArray⟩, .int .i64 t.n] 46)
 have fb4 : Fr [] x3 (x3.alloc (.cells #[.int .i64 t.k, .int .i64 t.at', .string ⟨t.text.toArray⟩, .int .i64 t.n] 46)) := (Fr.refl [] x3).alloc _
 have f4 := (f0.trans f3).trans fb4
 have g0 := (f3.trans fb4).keep g0 (fun x => by cases x)
 have h4 := H.out.fr f4
 obtain ⟨p0, p1, p2, _⟩ := cells3 h3.blk
 have hT4 := lt_of_heap q3
 clear h3 fb4
 have HT := Lib.hid ht
 have hok := HOK.out
 rw [hok] at p2
 have hk3 := HK3.out
 have hk6 := HK6.out
 have hcn := HC.out
 clear hok
 clear ht
 go_wp2_with fail
 refine (cc _).out.mono ?_; rintro e y4 ⟨rfl, rfl⟩
 go_wp2_with fail
 clear p0 p1 p2 hk3 hk6
 generalize x3.alloc (.cells #[.int .i64 t.k, .int .i64 t.at', .string ⟨t.text.toArray⟩, .int .i64 t.n] 46) = x4 at *
 generalize x3.heap.size = TT at *
 have hs5 := lt_of_heap g0
 refine (IH.out.post P g c st x4 h4 (by have := HN.out; omega)).mono ?_
 rintro e x1 ⟨k1, a1, nm1, n1, s1, ls1, args1, arms1, A51, n51, c51, A61, n61, c61, A71, n71, c71, st1, rfl, hx1, hr1, hst1, f1⟩
 have g0 := f1.keep g0 (by simpa using nB)
 have hGx := g0
 have hs1 := f1.size
 have F1 : Fr [P] w x1 := (f4.mono (fun x hx => by cases hx)).trans f1
 have hle := hr1.le
 clear q3 hT4 f4 h4 cc
 go_wp2_with fail
 have q1 := heap_new x1 (.cells #[.int .i64 k1, .int .i64 a1, .string ⟨nm1.toArray⟩, .int .i64 n1, .string ⟨s1.toArray⟩, .slice A51 n51 c51, .slice A61 n61 c61, .slice A71 n71 c71] 27)
 have fb1 : Fr [] x1 (x1.alloc (.cells #[.int .i64 k1, .int .i64 a1, .string ⟨nm1.toArray⟩, .int .i64 n1, .string ⟨s1.toArray⟩, .slice A51 n51 c51, .slice A61 n61 c61, .slice A71 n71 c71] 27)) := (Fr.refl [] x1).alloc _
 generalize hY1 : x1.alloc (.cells #[.int .i64 k1, .int .i64 a1, .string ⟨nm1.toArray⟩, .int .i64 n1, .string ⟨s1.toArray⟩, .slice A51 n51 c51, .slice A61 n61 c61, .slice A71 n71 c71] 27) = x2 at *
 have hT1 := lt_of_heap q1
 generalize hTT1 : x1.heap.size = T7 at *
 have g0 := fb1.keep g0 (fun x => by cases x)
 have h2 := hst1.fr fb1
 have F2 := F1.trans0 fb1
 have hx1 := hx1.keep (ok' := fun b => B < b ∧ ¬ b = T7 ∧ ¬ b = P) (Sh.of_fr fb1 (fun b hb hlt => ⟨⟨by omega, by omega, by omega⟩, fun x => by cases x⟩))
 have HR0 : Hid (∀ x st', Run ts (body (.appL (.mk k1 a1 nm1 n1 s1 ls1 args1 arms1))) st1 (.e x) st' → Run ts (body .app) st (.e x) st') := Lib.hid (fun x st' h => .look HT.out (by rw [HK3.out, HCALL.out, if_neg (by simp), if_neg (by simp [HC.out])]; exact (.callE hr1 (.callE h .retE))))
 have hBT : B < T7 := by have := lt_of_heap hGx; omega
 clear hst1 hr1 fb1 f1 F1 hs1 H hGx
 go_loopw [] (fun wr => ∃ (k0 a0 : Int) (nm0 : List UInt8) (n0 : Int) (s0 : List UInt8) (ls0 : List (List UInt8)) (args0 : List ExprT) (arms0 : List (PatT × ExprT)) (A50 : Option Addr) (n50 c50 : Nat) (A60 : Option Addr) (n60 c60 : Nat) (A70 : Option Addr) (n70 c70 : Nat) (st0 : St), Fr [P] w wr ∧ B < T7 ∧ T7 < wr.heap.size ∧ wr.heap[B]? = some (.cells #[.int .i64 0, .int .i64 0, .string ⟨#[]⟩, .int .i64 0, .string ⟨#[]⟩, .slice none 0 0, .slice none 0 0, .slice none 0 0] 27 (0, 0)) ∧ wr.heap[T7]? = some (.cells #[.int .i64 k0, .int .i64 a0, .string ⟨nm0.toArray⟩, .int .i64 n0, .string ⟨s0.toArray⟩, .slice A50 n50 c50, .slice A60 n60 c60, .slice A70 n70 c70] 27 (0, 0)) ∧ ExprAt wr (fun b => B < b ∧ ¬ b = T7 ∧ ¬ b = P) (.mk k0 a0 nm0 n0 s0 ls0 args0 arms0) [.int .i64 k0, .int .i64 a0, .string ⟨nm0.toArray⟩, .int .i64 n0, .string ⟨s0.toArray⟩, .slice A50 n50 c50, .slice A60 n60 c60, .slice A70 n70 c70] ∧ PSt P g c ts st0 wr ∧ st.i ≤ st0.i ∧ Hid (∀ x st', Run ts (body (.appL (.mk k0 a0 nm0 n0 s0 ls0 args0 arms0))) st0 (.e x) st' → Run ts (body .app) st (.e x) st')) (fun wr => ts.length - plI wr P)
 case atStart => exact ⟨k1, a1, nm1, n1, s1, ls1, args1, arms1, A51, n51, c51, A61, n61, c61, A71, n71, c71, st1, F2, hBT, hT1, g0, q1, hx1, h2, hle, HR0⟩
 case round =>
  obtain ⟨k0, a0, nm0, n0, s0, ls0, args0, arms0, A50, n50, c50, A60, n60, c60, A70, n70, c70, st0, F, _, hT, g0, q0, hx0, h0, hle0, HR⟩ := hrel
  clear hx1 h2 HR0 q1 F2 hle hT1
  obtain ⟨u, hu⟩ := tok_at h0.inb
  have ci := fun w h => Lib.hid (begins_any P g c ts st0 u hu w h HE.out)
  cases hc : beginsB u st0.ok with
  | false =>
   rw [hc] at ci
   go_wp2_with fail
   refine (ci _ h0).out.mono ?_; rintro e y1 ⟨rfl, f1⟩
   have g0 := f1.keep g0 (fun x => by cases x)
   obtain ⟨⟨l0, l1, l2, l3, l4, l5, l6, l7⟩, _⟩ := cells8 (f1.keep q0 (fun x => by cases x))
   have hx0 := hx0.keep (ok' := fun b => B < b) (Sh.of_fr f1 (fun b hb hlt => ⟨hb.1, fun x => by cases x⟩))
   have HG := Lib.hid (st8_heap g0 (.int .i64 k0) (.int .i64 a0) (.string ⟨nm0.toArray⟩) (.int .i64 n0) (.string ⟨s0.toArray⟩) (.slice A50 n50 c50) (.slice A60 n60 c60) (.slice A70 n70 c70))
   have HF := Lib.hid ((F.trans0 f1).step (st8_fr y1 B (.int .i64 k0) (.int .i64 a0) (.string ⟨nm0.toArray⟩) (.int .i64 n0) (.string ⟨s0.toArray⟩) (.slice A50 n50 c50) (.slice A60 n60 c60) (.slice A70 n70 c70)) (fun x hx => .inr (by simp at hx; omega)))
   have HP := Lib.hid (((h0.fr f1)).frL (st8_fr y1 B (.int .i64 k0) (.int .i64 a0) (.string ⟨nm0.toArray⟩) (.int .i64 n0) (.string ⟨s0.toArray⟩) (.slice A50 n50 c50) (.slice A60 n60 c60) (.slice A70 n70 c70)) (by simpa using nP) (by simpa using ng))
   have HX : Hid (ExprAt (st8 y1 B (.int .i64 k0) (.int .i64 a0) (.string ⟨nm0.toArray⟩) (.int .i64 n0) (.string ⟨s0.toArray⟩) (.slice A50 n50 c50) (.slice A60 n60 c60) (.slice A70 n70 c70)) (fun b => B ≤ b) (.mk k0 a0 nm0 n0 s0 ls0 args0 arms0) [.int .i64 k0, .int .i64 a0, .string ⟨nm0.toArray⟩, .int .i64 n0, .string ⟨s0.toArray⟩, .slice A50 n50 c50, .slice A60 n60 c60, .slice A70 n70 c70]) := Lib.hid ((hx0).keep (Sh.of_fr (st8_fr y1 B (.int .i64 k0) (.int .i64 a0) (.string ⟨nm0.toArray⟩) (.int .i64 n0) (.string ⟨s0.toArray⟩) (.slice A50 n50 c50) (.slice A60 n60 c60) (.slice A70 n70 c70)) (fun b hb hlt => ⟨by omega, by simp; omega⟩)))
   unfold st8 at HG HF HP HX
   obtain ⟨⟨u0, u1, u2, u3, u4, u5, u6, u7⟩, z0, z1, z2, z3, z4, z5, z6, z7⟩ := cells8 g0
   go_wp2_with fail
   generalize (((((((y1.setCell ⟨B, 0, none⟩ (.int .i64 k0)).setCell ⟨B, 1, none⟩ (.int .i64 a0)).setCell ⟨B, 2, none⟩ (.string ⟨nm0.toArray⟩)).setCell ⟨B, 3, none⟩ (.int .i64 n0)).setCell ⟨B, 4, none⟩ (.string ⟨s0.toArray⟩)).setCell ⟨B, 5, none⟩ (.slice A50 n50 c50)).setCell ⟨B, 6, none⟩ (.slice A60 n60 c60)).setCell ⟨B, 7, none⟩ (.slice A70 n70 c70) = Z at HG HF HP HX ⊢
   obtain ⟨⟨d0, d1, d2, d3, d4, d5, d6, d7⟩, _⟩ := cells8 HG.out
   refine bodyPost_ret (v := .agg #[.int .i64 k0, .int .i64 a0, .string ⟨nm0.toArray⟩, .int .i64 n0, .string ⟨s0.toArray⟩, .slice A50 n50 c50, .slice A60 n60 c60, .slice A70 n70 c70]) ?_ rfl ?_
   ·simp [results, Tryz.f152, go_sem, d0, d1, d2, d3, d4, d5, d6, d7]
   ·exact ⟨_, _, _, _, _, _, _, _, _, _, _, _, _, _, _, _, _, _, rfl, by rw [hB]; exact HX.out, HR.out _ _ (.look hu (by rw [hc, if_neg (by decide)]; exact .retE)), HP.out, HF.out⟩
  | true =>
   rw [hc] at ci
   have HK0 := Lib.hid (begins_ok' hc)
   go_wp2_with fail
   refine (ci _ h0).out.mono ?_; rintro e y3 ⟨rfl, f1⟩; go_wp2_with fail
   have h3 := h0.fr f1
   have g0 := f1.keep g0 (fun x => by cases x)
   have q0 := f1.keep q0 (fun x => by cases x)
   have F3 := F.trans0 f1
   have hT7 := lt_of_heap q0
   have hx0 := hx0.keep (ok' := fun b => B < b ∧ ¬ b = T7 ∧ ¬ b = P ∧ b < y3.heap.size) (Sh.of_fr f1 (fun b hb hlt => ⟨⟨hb.1, hb.2.1, hb.2.2, by have := f1.size; omega⟩, fun x => by cases x⟩))
   have cE := fun W hW => Lib.hid (IH.out.post P g c st0 W hW (by have := HN.out; have := h3.inb; omega))
   obtain ⟨⟨l0, l1, l2, l3, l4, l5, l6, l7⟩, _⟩ := cells8 q0
   clear f1 ci
   have HH3 := Lib.hid h3
   have HX0 := Lib.hid hx0
   clear h3 hx0
   refine wp_region_last8 (fun w' => (w'.cell? ⟨T7, 0, none⟩ = some (.int .i64 k0) ∧ w'.cell? ⟨T7, 1, none⟩ = some (.int .i64 a0) ∧ w'.cell? ⟨T7, 2, none⟩ = some (.string ⟨nm0.toArray⟩) ∧ w'.cell? ⟨T7, 3, none⟩ = some (.int .i64 n0) ∧ w'.cell? ⟨T7, 4, none⟩ = some (.string ⟨s0.toArray⟩) ∧ w'.cell? ⟨T7, 5, none⟩ = some (.slice A50 n50 c50) ∧ w'.cell? ⟨T7, 6, none⟩ = some (.slice A60 n60 c60) ∧ w'.cell? ⟨T7, 7, none⟩ = some (.slice A70 n70 c70))) (by kernel_rfl) (by kernel_rfl) ?hS18 (fun K hK hHeld => ?hr18)
   case hS18 => go_keep
   refine held_take (i := 0) (v := ?v19) rfl (by kernel_rfl) (by kernel_rfl) (by kernel_rfl) (fun _ _ _ h => h) (Or.inl ⟨by rfl, ?hy19⟩) (by assumption) ?hr19
   case hy19 =>
    intro w' hSw
    (try dsimp only at hSw)
    go_simp
    (try with_reducible rfl)
   (try simp only [Act.put, List.setIfInBounds_toArray, List.set_cons_zero, List.set_cons_succ])
   refine held_take (i := 1) (v := ?v20) rfl (by kernel_rfl) (by kernel_rfl) (by kernel_rfl) (fun _ _ _ h => h) (Or.inl ⟨by rfl, ?hy20⟩) (by assumption) ?hr20
   case hy20 =>
    intro w' hSw
    (try dsimp only at hSw)
    go_simp
    (try with_reducible rfl)
   (try simp only [Act.put, List.setIfInBounds_toArray, List.set_cons_zero, List.set_cons_succ])
   refine held_take (i := 2) (v := ?v21) rfl (by kernel_rfl) (by kernel_rfl) (by kernel_rfl) (fun _ _ _ h => h) (Or.inl ⟨by rfl, ?hy21⟩) (by assumption) ?hr21
   case hy21 =>
    intro w' hSw
    (try dsimp only at hSw)
    go_simp
    (try with_reducible rfl)
   (try simp only [Act.put, List.setIfInBounds_toArray, List.set_cons_zero, List.set_cons_succ])
   refine held_take (i := 3) (v := ?v22) rfl (by kernel_rfl) (by kernel_rfl) (by kernel_rfl) (fun _ _ _ h => h) (Or.inl ⟨by rfl, ?hy22⟩) (by assumption) ?hr22
   case hy22 =>
    intro w' hSw
    (try dsimp only at hSw)
    go_simp
    (try with_reducible rfl)
   (try simp only [Act.put, List.setIfInBounds_toArray, List.set_cons_zero, List.set_cons_succ])
   refine held_step (i := 4) rfl (by kernel_rfl) (fun K4 hK4 => ?hr23)
   go_simp
   refine (cE _ (HH3.out.fr (Fr.refl [] y3).drew)).out.mono ?_
   rintro e y4 ⟨k2, a2, nm2, n2, s2, ls2, args2, arms2, A52, n52, c52, A62, n62, c62, A72, n72, c72, st2, rfl, hx2, hr2, hst2, f4⟩
   have Q4 := f4.keep (w := y3.drew) q0 (by simp; omega)
   have hT44 := lt_of_heap Q4
   obtain ⟨⟨u0, u1, u2, u3, u4, u5, u6, u7⟩, z0, z1, z2, z3, z4, z5, z6, z7⟩ := cells8 Q4
   go_simp
   refine hK4.out _ _ ?hS23 (fun hHeld => ?hq23)
   case hS23 => exact (cells8 Q4).1
   clear hK4 K4
   (try simp only [Act.put, List.setIfInBounds_toArray, List.set_cons_zero, List.set_cons_succ])
   refine held_step (i := 5) rfl (by kernel_rfl) (fun K5 hK5 => ?hr24)
   go_simp
   refine hK5.out _ _ ?hS24 (fun hHeld => ?hq24)
   case hS24 => exact (cells8 (heap_old Q4 _)).1
   clear hK5 K5
   (try simp only [Act.put, List.setIfInBounds_toArray, List.set_cons_zero, List.set_cons_succ])
   refine held_take (i := 6) (v := ?v25) rfl (by kernel_rfl) (by kernel_rfl) (by kernel_rfl) (fun _ _ _ h => h) (Or.inl ⟨by rfl, ?hy25⟩) (by assumption) ?hr25
   case hy25 =>
    intro w' hSw
    (try dsimp only at hSw)
    go_simp
    (try with_reducible rfl)
   (try simp only [Act.put, List.setIfInBounds_toArray, List.set_cons_zero, List.set_cons_succ])
   refine wpAnyH_done (by kernel_rfl) ?hr26 _
   refine thenLast_run rfl ?hq26
   go_simp
   refine hK.out _ _ ?hs26
   clear hK K
   all_goals
    have hx0 := HX0.out
    have h3 := HH3.out
    clear u0 u1 u2 u3 u4 u5 u6 u7 z0 z1 z2 z3 z4 z5 z6 z7 l0 l1 l2 l3 l4 l5 l6 l7 HX0 HH3
    have f4 : Fr [P] y3 y4 := ((Fr.refl [P] y3).drew).trans f4
    have hs4 := f4.size
    have hx0 := hx0.keep (ok' := fun b => B < b ∧ ¬ b = T7 ∧ ¬ b = P) (Sh.of_fr f4 (fun b hb hlt => ⟨⟨hb.1, hb.2.1, hb.2.2.1⟩, by simp; omega⟩))
    have hx2 := hx2.keep (ok' := fun b => B < b ∧ ¬ b = T7 ∧ ¬ b = P) (Sh.of_fr (Fr.refl [] y4) (fun b hb hlt => ⟨by have : y3.heap.size ≤ b := hb; exact ⟨by omega, by omega, by omega⟩, fun x => by cases x⟩))
    have g0 := f4.keep g0 (by simpa using nB)
    have hne4 : ¬ B = T7 := by omega
    have hle2 := hr2.le
    have HG := Lib.hid (st8_heap Q4 (.int .i64 8) (.int .i64 a0) (.string ⟨#[]⟩) (.int .i64 0) (.string ⟨#[]⟩) (.slice none 0 0) (.slice (some ⟨y4.heap.size, 0, none⟩) 2 2) (.slice none 0 0))
    have HB0 := Lib.hid ((st8_fr y4 T7 (.int .i64 8) (.int .i64 a0) (.string ⟨#[]⟩) (.int .i64 0) (.string ⟨#[]⟩) (.slice none 0 0) (.slice (some ⟨y4.heap.size, 0, none⟩) 2 2) (.slice none 0 0)).keep g0 (by simp; omega))
    have HF := Lib.hid ((F3.trans f4).step (st8_fr y4 T7 (.int .i64 8) (.int .i64 a0) (.string ⟨#[]⟩) (.int .i64 0) (.string ⟨#[]⟩) (.slice none 0 0) (.slice (some ⟨y4.heap.size, 0, none⟩) 2 2) (.slice none 0 0)) (fun x hx => .inr (by simp at hx; omega)))
    have HP := Lib.hid ((hst2).frL (st8_fr y4 T7 (.int .i64 8) (.int .i64 a0) (.string ⟨#[]⟩) (.int .i64 0) (.string ⟨#[]⟩) (.slice none 0 0) (.slice (some ⟨y4.heap.size, 0, none⟩) 2 2) (.slice none 0 0)) (by simp; omega) (by simp; omega))
    have HS := Lib.hid (st8_size y4 T7 (.int .i64 8) (.int .i64 a0) (.string ⟨#[]⟩) (.int .i64 0) (.string ⟨#[]⟩) (.slice none 0 0) (.slice (some ⟨y4.heap.size, 0, none⟩) 2 2) (.slice none 0 0))
    have HX0 : Hid (ExprAt (st8 y4 T7 (.int .i64 8) (.int .i64 a0) (.string ⟨#[]⟩) (.int .i64 0) (.string ⟨#[]⟩) (.slice none 0 0) (.slice (some ⟨y4.heap.size, 0, none⟩) 2 2) (.slice none 0 0)) (fun b => B < b ∧ ¬ b = T7 ∧ ¬ b = P) (.mk k0 a0 nm0 n0 s0 ls0 args0 arms0) [.int .i64 k0, .int .i64 a0, .string ⟨nm0.toArray⟩, .int .i64 n0, .string ⟨s0.toArray⟩, .slice A50 n50 c50, .slice A60 n60 c60, .slice A70 n70 c70]) := Lib.hid ((hx0).keep (Sh.of_fr (st8_fr y4 T7 (.int .i64 8) (.int .i64 a0) (.string ⟨#[]⟩) (.int .i64 0) (.string ⟨#[]⟩) (.slice none 0 0) (.slice (some ⟨y4.heap.size, 0, none⟩) 2 2) (.slice none 0 0)) (fun b hb hlt => ⟨hb, by simp; exact hb.2.1⟩)))
    have HX2 : Hid (ExprAt (st8 y4 T7 (.int .i64 8) (.int .i64 a0) (.string ⟨#[]⟩) (.int .i64 0) (.string ⟨#[]⟩) (.slice none 0 0) (.slice (some ⟨y4.heap.size, 0, none⟩) 2 2) (.slice none 0 0)) (fun b => B < b ∧ ¬ b = T7 ∧ ¬ b = P) (.mk k2 a2 nm2 n2 s2 ls2 args2 arms2) [.int .i64 k2, .int .i64 a2, .string ⟨nm2.toArray⟩, .int .i64 n2, .string ⟨s2.toArray⟩, .slice A52 n52 c52, .slice A62 n62 c62, .slice A72 n72 c72]) := Lib.hid ((hx2).keep (Sh.of_fr (st8_fr y4 T7 (.int .i64 8) (.int .i64 a0) (.string ⟨#[]⟩) (.int .i64 0) (.string ⟨#[]⟩) (.slice none 0 0) (.slice (some ⟨y4.heap.size, 0, none⟩) 2 2) (.slice none 0 0)) (fun b hb hlt => ⟨hb, by simp; exact hb.2.1⟩)))
    unfold st8 at HG HB0 HF HP HS HX0 HX2
    go_wp2_with fail
    generalize (((((((y4.setCell ⟨T7, 0, none⟩ (.int .i64 8)).setCell ⟨T7, 1, none⟩ (.int .i64 a0)).setCell ⟨T7, 2, none⟩ (.string ⟨#[]⟩)).setCell ⟨T7, 3, none⟩ (.int .i64 0)).setCell ⟨T7, 4, none⟩ (.string ⟨#[]⟩)).setCell ⟨T7, 5, none⟩ (.slice none 0 0)).setCell ⟨T7, 6, none⟩ (.slice (some ⟨y4.heap.size, 0, none⟩) 2 2)).setCell ⟨T7, 7, none⟩ (.slice none 0 0) = Z at HG HB0 HF HP HS HX0 HX2 ⊢
    have hZ4 := lt_of_heap HG.out
    have row := RowG.lit2 keepsE (T := 27) (size := 8) (ok := fun b => B < b ∧ ¬ b = T7 ∧ ¬ b = P) HX0.out HX2.out rfl rfl (by exact ⟨by omega, by omega, by omega⟩)
    rw [HS.out] at row
    have hxx := ExprAt.of_rows (k := 8) (a := a0) (nm := []) (n := 0) (s := []) (c5 := fun _ => []) (c7 := fun _ => []) RowG.nil_ row RowG.nil_
    have hPz := HP.out.fr ((Fr.refl [] Z).alloc (.cells #[.int .i64 k0, .int .i64 a0, .string ⟨nm0.toArray⟩, .int .i64 n0, .string ⟨s0.toArray⟩, .slice A50 n50 c50, .slice A60 n60 c60, .slice A70 n70 c70, .int .i64 k2, .int .i64 a2, .string ⟨nm2.toArray⟩, .int .i64 n2, .string ⟨s2.toArray⟩, .slice A52 n52 c52, .slice A62 n62 c62, .slice A72 n72 c72] 27))
    have hpl := hPz.pl
    have hpl0 := h0.pl
    have hin0 := h0.inb
    have hin2 := hst2.inb
    have hgo : st0.i < st2.i := Nat.lt_of_lt_of_le (takes_begins hu hc hr2) (Nat.le_refl _)
    go_roundw
    case rel => exact ⟨8, a0, [], 0, [], [], [(.mk k0 a0 nm0 n0 s0 ls0 args0 arms0), (.mk k2 a2 nm2 n2 s2 ls2 args2 arms2)], [], none, 0, 0, some ⟨y4.heap.size, 0, none⟩, 2, 2, none, 0, 0, st2, HF.out.alloc _, hBT, by simp; omega, heap_old HB0.out _, heap_old HG.out _, hxx, hPz, by omega, Lib.hid (fun x st' h => HR.out _ _ (.look hu (by rw [hc, if_pos rfl]; exact .callE hr2 (.callE h .retE))))⟩
    case measure => rw [hpl, hpl0]; omega
end Go.Proofs.YtpjkfeehgookkaaGreatDoor
namespace Go.Proofs.YtpjkfeehgookkaaGreatDoor
open Go.RowKit
theorem app_step (ts : List Tok) (hE : EndOk ts) (N : Nat) (ih : AllE ts N) : GE ts (N + 1) 5 .app 152 := by
 intro P g c st w h hm
 obtain ⟨t, ht⟩ := tok_at h.inb
 cases hok : st.ok with
 | false => exact app_app1 ts hE N ih P g c st w h hm t ht hok
 | true =>
  cases hk3 : (t.k == 3) with
  | true => exact app_tag ts hE N ih P g c st w h hm t ht hok hk3
  | false =>
   cases hk6 : (t.k == 6) with
   | false => exact app_app2 ts hE N ih P g c st w h hm t ht hok hk3 hk6
   | true =>
    by_cases hcn : 0 < (calledOf t.text).1
    ·exact app_op ts hE N ih P g c st w h hm t ht hok hk6 hcn
    ·exact app_app3 ts hE N ih P g c st w h hm t ht hok hk6 hcn
end Go.Proofs.YtpjkfeehgookkaaGreatDoor
namespace Go.Proofs.YtpjkfeehgookkaaGreatDoor
open Go.RowKit
theorem infoStr : (Tryz.prog.info? 9).map (fun i => (i.zero, i.size, i.bytes)) = some (some (.string ⟨#[]⟩), 1, 16) := by kernel_rfl
theorem infoPat : (Tryz.prog.info? 62).map (fun i => (i.zero, i.size, i.bytes)) = some (some (.agg #[.int .i64 0, .int .i64 0, .string ⟨#[]⟩, .int .i64 0, .string ⟨#[]⟩, .slice none 0 0, .slice none 0 0]), 7, 104) := by kernel_rfl
theorem infoArm : (Tryz.prog.info? 64).map (fun i => (i.zero, i.size, i.bytes)) = some (some (.agg #[.int .i64 0, .int .i64 0, .string ⟨#[]⟩, .int .i64 0, .string ⟨#[]⟩, .slice none 0 0, .slice none 0 0, .int .i64 0, .int .i64 0, .string ⟨#[]⟩, .int .i64 0, .string ⟨#[]⟩, .slice none 0 0, .slice none 0 0, .slice none 0 0]), 15, 232) := by kernel_rfl
theorem app_after_g {α : Type} {E : World → (Nat → Prop) → α → List Value → Prop} {TT : TypeId} {size : Nat} (hK : KeepsE E) {P g c B T fld : Nat} {ts : List Tok} {st2 : St} {w wr x8 w9 : World} {ZB C : Obj} {VV VV' : Array Value} {TY : TypeId} {v v' : Value} {acc : List α} {x : α} {cs : List Value} {c6 : Nat → List Value}
  (f8 : Fr [P] wr x8) (hx : E x8 (fun b => wr.heap.size ≤ b) x cs) (hl : cs.length = size) (hst2 : PSt P g c ts st2 x8) (g0 : wr.heap[B]? = some ZB) (q0 : wr.heap[T]? = some (.cells VV TY (0, 0)))
  {ok : Nat → Prop} (row : RowG E TT size wr ok v acc c6) (ho1 : ∀ b, ok b → ¬ b = T ∧ ¬ b = P ∧ ¬ b = B ∧ ¬ b = g) (ho2 : ∀ b, wr.heap.size ≤ b → ok b) (hwo : ∀ b, ok b → w.heap.size ≤ b) (F : Fr [P] w wr) (hBT : ¬ B = T) (hB : w.heap.size ≤ T) (hPB : P < B) (_hgB : g < B) (hP : P < T) (hg : g < T) (_hwB : w.heap.size ≤ B)
  (hown : w9.ownsRow 0 TT size v' (acc.length + 1) (flatN c6 acc.length ++ cs)) (hgrow : (x8.alloc C).grownBy w9 v.ownBlock) (hfp : FpOf v v' (x8.alloc C).heap.size) (hVV : VV.setIfInBounds fld v' = VV') :
  Fr [P] w (w9.setCell ⟨T, fld, none⟩ v') ∧ (w9.setCell ⟨T, fld, none⟩ v').heap[B]? = some ZB ∧ (w9.setCell ⟨T, fld, none⟩ v').heap[T]? = some (.cells VV' TY (0, 0)) ∧ PSt P g c ts st2 (w9.setCell ⟨T, fld, none⟩ v') ∧
  RowG E TT size (w9.setCell ⟨T, fld, none⟩ v') ok v' (acc ++ [x]) (fun i => if i = acc.length then cs else c6 i) ∧
  (∀ b, b < wr.heap.size → ¬ b = T → ¬ b = P → v.ownBlock ≠ some b → (w9.setCell ⟨T, fld, none⟩ v').heap[b]? = wr.heap[b]? ∧ b < (w9.setCell ⟨T, fld, none⟩ v').heap.size) ∧
  (∀ b, v'.ownBlock = some b → v.ownBlock = some b ∨ wr.heap.size ≤ b) ∧ wr.heap.size ≤ (w9.setCell ⟨T, fld, none⟩ v').heap.size := by
 have hs8 := f8.size
 have hTlt := lt_of_heap q0
 have hBlt := lt_of_heap g0
 have blk := row.blk
 have olt : ∀ gg, v.ownBlock = some gg → gg < wr.heap.size := fun gg hg => row.own_lt gg hg
 have fa : Fr [] x8 (x8.alloc C) := (Fr.refl [] x8).alloc _
 have hxa := hK _ (x8.alloc C) _ (fun b => wr.heap.size ≤ b ∧ b < x8.heap.size) x cs hx (Sh.of_fr fa (fun b hb hlt => ⟨⟨hb, hlt⟩, fun x => by cases x⟩))
 have rowa := RowG.keep (w' := x8.alloc C) (ok' := ok) hK row (Sh.of_fr (f8.trans0 fa) (fun b hb hlt => ⟨hb, by simp; exact (ho1 b hb).2.1⟩))
 have row9 := RowG.app hK rowa hxa hl (fun b hb hlt => ⟨ho2 b hb.1, fun e => by have := olt b e; omega⟩) hown hgrow hfp (fun b hb => by simp only [World.size_alloc] at hb; exact ho2 b (by omega))
 have fg : Fr v.ownBlock.toList (x8.alloc C) w9 := (Fr.refl _ _).append hgrow (fun gg hg => .inl (by simp [hg]))
 have nb : ∀ b, ¬ ok b → b ∉ v.ownBlock.toList := fun b hb hm => hb (blk b (by simpa using hm))
 have nP : ¬ P = T := by omega
 have g9 := fg.keep (fa.keep (f8.keep g0 (by simp; omega)) (fun x => by cases x)) (nb B (fun h => (ho1 B h).2.2.1 rfl))
 have q9 := fg.keep (fa.keep (f8.keep q0 (by simp; omega)) (fun x => by cases x)) (nb T (fun h => (ho1 T h).1 rfl))
 have h9 := (hst2.fr fa).frL fg (nb P (fun h => (ho1 P h).2.1 rfl)) (nb g (fun h => (ho1 g h).2.2.2 rfl))
 have F9 : Fr [P] w w9 := ((F.trans f8).trans0 fa).append hgrow (fun gg hg => .inr (hwo gg (blk gg hg)))
 have fs := (Fr.refl [T] w9).setCell (p := ⟨T, fld, none⟩) (.inl (by simp)) v'
 refine ⟨F9.step fs (fun x hx => .inr (by simp at hx; omega)), fs.keep g9 (by simp; omega), by rw [← hVV]; exact set_at q9 fld v', h9.frL fs (by simp; omega) (by simp; omega), RowG.keep (ok' := ok) hK row9 (Sh.of_fr fs (fun b hb hlt => ⟨hb, by simp; exact (ho1 b hb).1⟩)), fun b hb h1 h2 h3 => ?_, fun b hb => ?_, ?_⟩
 ·have e1 := f8.block b hb (by simpa using h2)
  have e2 := fa.block b (by omega) (fun x => by cases x)
  have e3 := fg.block b (by have := fa.size; omega) (by simpa using fun e => h3 e)
  have e4 := fs.block b (by have := fa.size; have := fg.size; omega) (by simpa using h1)
  exact ⟨e4.trans (e3.trans (e2.trans e1)), by have := fa.size; have := fg.size; have := fs.size; omega⟩
 ·rcases hfp b hb with h | h
  ·exact .inl h
  ·simp only [World.size_alloc] at h; exact .inr (by omega)
 ·have := fa.size; have := fg.size; have := fs.size; omega
theorem app_after {α : Type} {E : World → (Nat → Prop) → α → List Value → Prop} {TT : TypeId} {size : Nat} (hK : KeepsE E) {P g c B T fld : Nat} {ts : List Tok} {st2 : St} {w wr x8 w9 : World} {ZB C : Obj} {VV VV' : Array Value} {TY : TypeId} {v v' : Value} {acc : List α} {x : α} {cs : List Value} {c6 : Nat → List Value}
  (f8 : Fr [P] wr x8) (hx : E x8 (fun b => wr.heap.size ≤ b) x cs) (hl : cs.length = size) (hst2 : PSt P g c ts st2 x8) (g0 : wr.heap[B]? = some ZB) (q0 : wr.heap[T]? = some (.cells VV TY (0, 0)))
  (row : RowG E TT size wr (fun b => B < b ∧ ¬ b = T ∧ ¬ b = P) v acc c6) (F : Fr [P] w wr) (hBT : ¬ B = T) (hB : w.heap.size ≤ T) (hPB : P < B) (hgB : g < B) (hP : P < T) (hg : g < T) (hwB : w.heap.size ≤ B)
  (hown : w9.ownsRow 0 TT size v' (acc.length + 1) (flatN c6 acc.length ++ cs)) (hgrow : (x8.alloc C).grownBy w9 v.ownBlock) (hfp : FpOf v v' (x8.alloc C).heap.size) (hVV : VV.setIfInBounds fld v' = VV') :
  Fr [P] w (w9.setCell ⟨T, fld, none⟩ v') ∧ (w9.setCell ⟨T, fld, none⟩ v').heap[B]? = some ZB ∧ (w9.setCell ⟨T, fld, none⟩ v').heap[T]? = some (.cells VV' TY (0, 0)) ∧ PSt P g c ts st2 (w9.setCell ⟨T, fld, none⟩ v') ∧
  RowG E TT size (w9.setCell ⟨T, fld, none⟩ v') (fun b => B < b ∧ ¬ b = T ∧ ¬ b = P) v' (acc ++ [x]) (fun i => if i = acc.length then cs else c6 i) ∧
  (∀ b, b < wr.heap.size → ¬ b = T → ¬ b = P → v.ownBlock ≠ some b → (w9.setCell ⟨T, fld, none⟩ v').heap[b]? = wr.heap[b]? ∧ b < (w9.setCell ⟨T, fld, none⟩ v').heap.size) ∧
  (∀ b, v'.ownBlock = some b → v.ownBlock = some b ∨ wr.heap.size ≤ b) ∧ wr.heap.size ≤ (w9.setCell ⟨T, fld, none⟩ v').heap.size :=
 app_after_g hK f8 hx hl hst2 g0 q0 row (fun b hb => ⟨hb.2.1, hb.2.2, by omega, by omega⟩) (fun b hb => ⟨by have := lt_of_heap g0; omega, by have := lt_of_heap q0; omega, by have := lt_of_heap g0; omega⟩) (fun b hb => by have := hb.1; omega) F hBT hB hPB hgB hP hg hwB hown hgrow hfp hVV
end Go.Proofs.YtpjkfeehgookkaaGreatDoor
namespace Go.Proofs.YtpjkfeehgookkaaGreatDoor
open Go.RowKit
attribute [local go_sem ↓] Go.wp_at_zero Go.wp_at_succ
theorem mustS_le (t : Tok) (st : St) (s : List UInt8) : st.i ≤ (mustS t st s).i := by unfold mustS; split <;> simp
theorem nameS_le2 (t : Tok) (st : St) : st.i ≤ (nameS t st).i := by unfold nameS; split <;> simp
set_option maxHeartbeats 4000000 in
set_option maxRecDepth 100000 in
theorem fn_any (ts : List Tok) (hE : EndOk ts) (N : Nat) (ih : AllE ts N) (P g c : Nat) (st : St) (w : World) (h : PSt P g c ts st w) (t : Tok) (ht : ts[st.i]? = some t) (hm : 16 * (ts.length - (mustS t st [102, 117, 110]).i) + 13 < N) : Calls Tryz.prog 53 #[.pointer (some ⟨P, 0, none⟩)] w (ExOk P g c ts st (body .fn) w) := by
 have H := Lib.hid h
 have hP := lt_of_heap h.blk
 have hgl := h.lt
 have hin := h.inb
 have HN := Lib.hid hm
 have HE := Lib.hid hE
 have IH := Lib.hid ih
 clear h hm hE ih
 go_enter Tryz.func53, Tryz.ntmps53
 go_wp2_with fail
 have f0 : Fr [] w (w.alloc (.cells #[.int .i64 0, .int .i64 0, .string ⟨#[]⟩, .int .i64 0, .string ⟨#[]⟩, .slice none 0 0, .slice none 0 0, .slice none 0 0] 27)) := (Fr.refl [] w).alloc _
 have g0 := heap_new w (.cells #[.int .i64 0, .int .i64 0, .string ⟨#[]⟩, .int .i64 0, .string ⟨#[]⟩, .slice none 0 0, .slice none 0 0, .slice none 0 0] 27)
 generalize w.alloc (.cells #[.int .i64 0, .int .i64 0, .string ⟨#[]⟩, .int .i64 0, .string ⟨#[]⟩, .slice none 0 0, .slice none 0 0, .slice none 0 0] 27) = w1 at *
 generalize hB : w.heap.size = B at *
 have hB1 := lt_of_heap g0
 have nP : ¬ P = B := by omega
 have nB : ¬ B = P := by omega
 have ng : ¬ g = B := by omega
 have r1 := tok_f1
 refine (now_any P g c ts st t ht w1 (H.out.fr f0) HE.out).mono ?_
 rintro e x3 ⟨rfl, f3⟩
 go_wp2_with fail
 have hTB := lt_of_heap (f3.keep g0 (fun x => by cases x))
 have q4 := heap_new x3 (.cells #[.int .i64 7, .int .i64 t.at', .string ⟨#[]⟩, .int .i64 0, .string ⟨#[]⟩, .slice none 0 0, .slice none 0 0, .slice none 0 0] 27)
 have fb4 : Fr [] x3 (x3.alloc (.cells #[.int .i64 7, .int .i64 t.at', .string ⟨#[]⟩, .int .i64 0, .string ⟨#[]⟩, .slice none 0 0, .slice none 0 0, .slice none 0 0] 27)) := (Fr.refl [] x3).alloc _
 generalize x3.alloc (.cells #[.int .i64 7, .int .i64 t.at', .string ⟨#[]⟩, .int .i64 0, .string ⟨#[]⟩, .slice none 0 0, .slice none 0 0, .slice none 0 0] 27) = x4 at *
 have hT4 := lt_of_heap q4
 generalize x3.heap.size = T at *
 have f4 := (f0.trans f3).trans fb4
 have g0 := (f3.trans fb4).keep g0 (fun x => by cases x)
 have h4 := H.out.fr f4
 clear r1 f0 f3 fb4
 have nT1 : ¬ B = T := by omega
 have nT2 : ¬ T = B := by omega
 have nT3 : ¬ T = P := by omega
 refine (must_any [102, 117, 110] P g c ts st t ht x4 h4 HE.out).mono ?_
 rintro e x5 ⟨rfl, h5, f5⟩
 go_wp2_with fail
 have g0 := f5.keep g0 (by simpa using nB)
 have q4 := f5.keep q4 (by simpa using nT3)
 have F5 := (f4.mono (L' := [P]) (fun x hx => by cases hx)).trans f5
 obtain ⟨u, hu⟩ := tok_at h5.inb
 refine (name_any P g c ts (mustS t st [102, 117, 110]) u hu x5 h5 HE.out).mono ?_
 rintro e x6 ⟨rfl, h6, f6⟩
 have g0 := f6.keep g0 (by simpa using nB)
 have q4 := f6.keep q4 (by simpa using nT3)
 have F6 := F5.trans f6
 obtain ⟨⟨m0, m1, m2, m3, m4, m5, m6, m7⟩, j0, j1, j2, j3, j4, j5, j6, j7⟩ := cells8 q4
 have q7 : (x6.setCell ⟨T, 2, none⟩ (.string ⟨(nameT u (mustS t st [102, 117, 110])).toArray⟩)).heap[T]? = some (.cells #[.int .i64 7, .int .i64 t.at', .string ⟨(nameT u (mustS t st [102, 117, 110])).toArray⟩, .int .i64 0, .string ⟨#[]⟩, .slice none 0 0, .slice none 0 0, .slice none 0 0] 27 (0, 0)) := set_at q4 2 _
 have fs := (Fr.refl [T] x6).setCell (p := ⟨T, 2, none⟩) (.inl (by simp)) (.string ⟨(nameT u (mustS t st [102, 117, 110])).toArray⟩)
 have g0 := fs.keep g0 (by simpa using nT1)
 have h7 := h6.frL fs (by simp; omega) (by simp; omega)
 have F7 := F6.step fs (fun x hx => .inr (by simp at hx; omega))
 have HQ := Lib.hid q7
 clear q4 q7 fs
 go_wp2_with fail
 clear m0 m1 m2 m3 m4 m5 m6 m7 j0 j1 j2 j3 j4 j5 j6 j7
 have q4 := HQ.out
 generalize x6.setCell ⟨T, 2, none⟩ (.string ⟨(nameT u (mustS t st [102, 117, 110])).toArray⟩) = x7 at *
 obtain ⟨v, hv⟩ := tok_at h7.inb
 refine (must_any [45, 62] P g c ts (nameS u (mustS t st [102, 117, 110])) v hv x7 h7 HE.out).mono ?_
 rintro e x8 ⟨rfl, h8, f8⟩
 go_wp2_with fail
 have g0 := f8.keep g0 (by simpa using nB)
 have q4 := f8.keep q4 (by simpa using nT3)
 have hT8 := lt_of_heap q4
 have F8 := F7.trans f8
 have hle1 := nameS_le2 u (mustS t st [102, 117, 110])
 have hle2 := mustS_le v (nameS u (mustS t st [102, 117, 110])) [45, 62]
 refine (IH.out.seq P g c (mustS v (nameS u (mustS t st [102, 117, 110])) [45, 62]) x8 h8 (by have := HN.out; have := h8.inb; omega)).mono ?_
 rintro e x9 ⟨k2, a2, nm2, n2, s2, ls2, args2, arms2, A52, n52, c52, A62, n62, c62, A72, n72, c72, st2, rfl, hx2, hr2, hst2, f9⟩
 have g0 := f9.keep g0 (by simpa using nB)
 have q4 := f9.keep q4 (by simpa using nT3)
 have F9 := F8.trans f9
 have hx2 := hx2.keep (ok' := fun b => B < b ∧ ¬ b = T ∧ ¬ b = P) (Sh.of_fr (Fr.refl [] x9) (fun b hb hlt => ⟨by have : x8.heap.size ≤ b := hb; exact ⟨by omega, by omega, by omega⟩, fun x => by cases x⟩))
 obtain ⟨⟨m0, m1, m2, m3, m4, m5, m6, m7⟩, j0, j1, j2, j3, j4, j5, j6, j7⟩ := cells8 q4
 obtain ⟨⟨l0, l1, l2, l3, l4, l5, l6, l7⟩, y0, y1, y2, y3, y4, y5, y6, y7⟩ := cells8 g0
 have hT9 := lt_of_heap q4
 have hB9 := lt_of_heap g0
 have fs := (Fr.refl [T] x9).setCell (p := ⟨T, 6, none⟩) (.inl (by simp)) (.slice (some ⟨x9.heap.size, 0, none⟩) 1 1)
 have g0 := fs.keep g0 (by simpa using nT1)
 have h10 := hst2.frL fs (by simp; omega) (by simp; omega)
 have F10 := F9.step fs (fun x hx => .inr (by simp at hx; omega))
 have hx2 := hx2.keep (ok' := fun b => B < b ∧ ¬ b = P) (Sh.of_fr fs (fun b hb hlt => ⟨⟨hb.1, hb.2.2⟩, by simp; exact hb.2.1⟩))
 have HG := Lib.hid (st8_heap g0 (.int .i64 7) (.int .i64 t.at') (.string ⟨(nameT u (mustS t st [102, 117, 110])).toArray⟩) (.int .i64 0) (.string ⟨#[]⟩) (.slice none 0 0) (.slice (some ⟨x9.heap.size, 0, none⟩) 1 1) (.slice none 0 0))
 have HF := Lib.hid ((F10).step (st8_fr (x9.setCell ⟨T, 6, none⟩ (.slice (some ⟨x9.heap.size, 0, none⟩) 1 1)) B (.int .i64 7) (.int .i64 t.at') (.string ⟨(nameT u (mustS t st [102, 117, 110])).toArray⟩) (.int .i64 0) (.string ⟨#[]⟩) (.slice none 0 0) (.slice (some ⟨x9.heap.size, 0, none⟩) 1 1) (.slice none 0 0)) (fun x hx => .inr (by simp at hx; omega)))
 have HP := Lib.hid ((h10).frL (st8_fr (x9.setCell ⟨T, 6, none⟩ (.slice (some ⟨x9.heap.size, 0, none⟩) 1 1)) B (.int .i64 7) (.int .i64 t.at') (.string ⟨(nameT u (mustS t st [102, 117, 110])).toArray⟩) (.int .i64 0) (.string ⟨#[]⟩) (.slice none 0 0) (.slice (some ⟨x9.heap.size, 0, none⟩) 1 1) (.slice none 0 0)) (by simpa using nP) (by simpa using ng))
 have HS : Hid ((st8 (x9.setCell ⟨T, 6, none⟩ (.slice (some ⟨x9.heap.size, 0, none⟩) 1 1)) B (.int .i64 7) (.int .i64 t.at') (.string ⟨(nameT u (mustS t st [102, 117, 110])).toArray⟩) (.int .i64 0) (.string ⟨#[]⟩) (.slice none 0 0) (.slice (some ⟨x9.heap.size, 0, none⟩) 1 1) (.slice none 0 0)).heap.size = x9.heap.size) := Lib.hid ((st8_size _ _ _ _ _ _ _ _ _ _).trans (by simp [World.setCell]))
 have HX2 : Hid (ExprAt (st8 (x9.setCell ⟨T, 6, none⟩ (.slice (some ⟨x9.heap.size, 0, none⟩) 1 1)) B (.int .i64 7) (.int .i64 t.at') (.string ⟨(nameT u (mustS t st [102, 117, 110])).toArray⟩) (.int .i64 0) (.string ⟨#[]⟩) (.slice none 0 0) (.slice (some ⟨x9.heap.size, 0, none⟩) 1 1) (.slice none 0 0)) (fun b => B ≤ b) (.mk k2 a2 nm2 n2 s2 ls2 args2 arms2) [.int .i64 k2, .int .i64 a2, .string ⟨nm2.toArray⟩, .int .i64 n2, .string ⟨s2.toArray⟩, .slice A52 n52 c52, .slice A62 n62 c62, .slice A72 n72 c72]) := Lib.hid ((hx2).keep (Sh.of_fr (st8_fr (x9.setCell ⟨T, 6, none⟩ (.slice (some ⟨x9.heap.size, 0, none⟩) 1 1)) B (.int .i64 7) (.int .i64 t.at') (.string ⟨(nameT u (mustS t st [102, 117, 110])).toArray⟩) (.int .i64 0) (.string ⟨#[]⟩) (.slice none 0 0) (.slice (some ⟨x9.heap.size, 0, none⟩) 1 1) (.slice none 0 0)) (fun b hb hlt => ⟨by omega, by simp; omega⟩)))
 unfold st8 at HG HF HP HS HX2
 go_wp2_with fail
 generalize ((((((((x9.setCell ⟨T, 6, none⟩ (.slice (some ⟨x9.heap.size, 0, none⟩) 1 1)).setCell ⟨B, 0, none⟩ (.int .i64 7)).setCell ⟨B, 1, none⟩ (.int .i64 t.at')).setCell ⟨B, 2, none⟩ (.string ⟨(nameT u (mustS t st [102, 117, 110])).toArray⟩)).setCell ⟨B, 3, none⟩ (.int .i64 0)).setCell ⟨B, 4, none⟩ (.string ⟨#[]⟩)).setCell ⟨B, 5, none⟩ (.slice none 0 0)).setCell ⟨B, 6, none⟩ (.slice (some ⟨x9.heap.size, 0, none⟩) 1 1)).setCell ⟨B, 7, none⟩ (.slice none 0 0) = Z at HG HF HP HS HX2 ⊢
 obtain ⟨⟨d0, d1, d2, d3, d4, d5, d6, d7⟩, _⟩ := cells8 (heap_old HG.out (.cells #[.int .i64 k2, .int .i64 a2, .string ⟨nm2.toArray⟩, .int .i64 n2, .string ⟨s2.toArray⟩, .slice A52 n52 c52, .slice A62 n62 c62, .slice A72 n72 c72] 27))
 have hBZ : B ≤ Z.heap.size := by have := lt_of_heap HG.out; omega
 have row := RowG.lit keepsE (T := 27) (size := 8) HX2.out rfl (ok := fun b => B ≤ b) hBZ
 rw [HS.out] at row
 have hxx := ExprAt.of_rows (k := 7) (a := t.at') (nm := nameT u (mustS t st [102, 117, 110])) (n := 0) (s := []) (c5 := fun _ => []) (c7 := fun _ => []) RowG.nil_ row RowG.nil_
 refine bodyPost_ret (v := .agg #[.int .i64 7, .int .i64 t.at', .string ⟨(nameT u (mustS t st [102, 117, 110])).toArray⟩, .int .i64 0, .string ⟨#[]⟩, .slice none 0 0, .slice (some ⟨x9.heap.size, 0, none⟩) 1 1, .slice none 0 0]) ?_ rfl ?_
 ·simp [results, Tryz.f53, go_sem, d0, d1, d2, d3, d4, d5, d6, d7]
 ·exact ⟨_, _, _, _, _, _, _, _, _, _, _, _, _, _, _, _, _, _, rfl, by rw [hB]; exact hxx, .look ht (.must_ ht (.name_ hu (.must_ hv (.callE hr2 .retE)))), HP.out.fr ((Fr.refl [] Z).alloc _), HF.out.alloc _⟩
theorem fn_step (ts : List Tok) (hE : EndOk ts) (N : Nat) (ih : AllE ts N) : GE ts (N + 1) 14 .fn 53 := fun P g c st w h hm => by
 obtain ⟨t, ht⟩ := tok_at h.inb
 exact fn_any ts hE N ih P g c st w h t ht (by have := mustS_le t st [102, 117, 110]; omega)
def GF (ts : List Tok) (N : Nat) : Prop := ∀ (P g c : Nat) (st : St) (w : World) (t : Tok), PSt P g c ts st w → ts[st.i]? = some t → isB t st.ok [[102, 117, 110]] = true → 16 * (ts.length - st.i) < N → Calls Tryz.prog 53 #[.pointer (some ⟨P, 0, none⟩)] w (ExOk P g c ts st (body .fn) w)
theorem fn0_step (ts : List Tok) (hE : EndOk ts) (N : Nat) (ih : AllE ts N) : GF ts (N + 1) := fun P g c st w t h ht hb hm => by
 refine fn_any ts hE N ih P g c st w h t ht ?_
 have := h.inb
 unfold mustS
 rw [if_pos hb]
 simp only
 omega
end Go.Proofs.YtpjkfeehgookkaaGreatDoor
namespace Go.Proofs.YtpjkfeehgookkaaGreatDoor
open Go.RowKit
attribute [local go_sem ↓] Go.wp_at_zero Go.wp_at_succ
set_option maxHeartbeats 8000000 in
set_option maxRecDepth 100000 in
theorem item_It1 (ts : List Tok) (hE : EndOk ts) (N : Nat) (ih : AllE ts N) (P g c : Nat) (st : St) (w : World) (h : PSt P g c ts st w) (hm : 16 * (ts.length - st.i) + 12 < N + 1) (t : Tok) (ht : ts[st.i]? = some t) (hb0 : isB t st.ok [[108, 101, 116]] = true) (hr : ∀ u, ts[st.i + 1]? = some u → isB u st.ok [[114, 101, 99]] = false) : Calls Tryz.prog 33 #[.pointer (some ⟨P, 0, none⟩)] w (ExOk P g c ts st (body .item) w) := by
 have HRC : Hid (∀ u, ts[st.i + 1]? = some u → isB u st.ok [[114, 101, 99]] = false) := Lib.hid hr
 clear hr
 have HB0 := Lib.hid hb0
 clear hb0
 have H := Lib.hid h
 have hP := lt_of_heap h.blk
 have hgl := h.lt
 have hin := h.inb
 have HN := Lib.hid hm
 have HE := Lib.hid hE
 have IH := Lib.hid ih
 clear h hm hE ih
 go_enter Tryz.func33, Tryz.ntmps33
 go_wp2_with fail
 have f0 : Fr [] w (w.alloc (.cells #[.int .i64 0, .int .i64 0, .string ⟨#[]⟩, .int .i64 0, .string ⟨#[]⟩, .slice none 0 0, .slice none 0 0, .slice none 0 0] 27)) := (Fr.refl [] w).alloc _
 have g0 := heap_new w (.cells #[.int .i64 0, .int .i64 0, .string ⟨#[]⟩, .int .i64 0, .string ⟨#[]⟩, .slice none 0 0, .slice none 0 0, .slice none 0 0] 27)
 generalize w.alloc (.cells #[.int .i64 0, .int .i64 0, .string ⟨#[]⟩, .int .i64 0, .string ⟨#[]⟩, .slice none 0 0, .slice none 0 0, .slice none 0 0] 27) = w1 at *
 generalize hB : w.heap.size = B at *
 have hB1 := lt_of_heap g0
 have nP : ¬ P = B := by omega
 have nB : ¬ B = P := by omega
 have ng : ¬ g = B := by omega
 have HT := Lib.hid ht
 refine (now_any P g c ts st t ht w1 (H.out.fr f0) HE.out).mono ?_
 rintro e x3 ⟨rfl, f3⟩
 go_wp2_with fail
 have q3 := heap_new x3 (.cells #[.int .i64 t.k, .int .i64 t.at', .string ⟨t.text.toArray⟩, .int .i64 t.n] 46)
 have fb4 : Fr [] x3 (x3.alloc (.cells #[.int .i64 t.k, .int .i64 t.at', .string ⟨t.text.toArray⟩, .int .i64 t.n] 46)) := (Fr.refl [] x3).alloc _
 generalize x3.alloc (.cells #[.int .i64 t.k, .int .i64 t.at', .string ⟨t.text.toArray⟩, .int .i64 t.n] 46) = x4 at *
 have hT4 := lt_of_heap q3
 have hs3 := f3.size
 generalize x3.heap.size = T3 at *
 have f4 := (f0.trans f3).trans fb4
 have g0 := (f3.trans fb4).keep g0 (fun x => by cases x)
 have h4 := H.out.fr f4
 have hPB : P < B := by omega
 have hgB : g < B := by omega
 have hBw : w.heap.size ≤ B := by omega
 have hBT3 : B < T3 := by have := (f0.trans f3).size; have := lt_of_heap g0; omega
 clear f0 f3 fb4
 refine (may_yes [108, 101, 116] P g c ts st t HT.out HB0.out x4 h4 HE.out).mono ?_
 rintro e x5 ⟨rfl, h0, f5⟩
 have g0 := f5.keep g0 (by simpa using nB)
 have q3 := f5.keep q3 (by simp; omega)
 have F : Fr [P] w x5 := (f4.mono (fun x hx => by cases hx)).trans f5
 have hs5 := lt_of_heap g0
 clear f4 f5 h4 hT4 hs3
 obtain ⟨m0, m1, m2, m3, _⟩ := cells4 q3
 go_wp2_with fail
 have q0 := heap_new x5 (.cells #[.int .i64 9, .int .i64 t.at', .string ⟨#[]⟩, .int .i64 0, .string ⟨#[]⟩, .slice none 0 0, .slice none 0 0, .slice none 0 0] 27)
 have fb : Fr [] x5 (x5.alloc (.cells #[.int .i64 9, .int .i64 t.at', .string ⟨#[]⟩, .int .i64 0, .string ⟨#[]⟩, .slice none 0 0, .slice none 0 0, .slice none 0 0] 27)) := (Fr.refl [] x5).alloc _
 generalize x5.alloc (.cells #[.int .i64 9, .int .i64 t.at', .string ⟨#[]⟩, .int .i64 0, .string ⟨#[]⟩, .slice none 0 0, .slice none 0 0, .slice none 0 0] 27) = x6 at *
 have hBT : B < x5.heap.size := lt_of_heap g0
 generalize x5.heap.size = T at *
 have g0 := fb.keep g0 (fun x => by cases x)
 have h0 := h0.fr fb
 have F := F.trans0 fb
 clear fb
 clear m0 m1 m2 m3 q3
 obtain ⟨u, hu⟩ := tok_at h0.inb
 refine (may_no [114, 101, 99] P g c ts ⟨st.i + 1, st.ok⟩ u hu (HRC.out u hu) x6 h0 HE.out).mono ?_
 rintro e x7 ⟨rfl, fm⟩
 have g0 := fm.keep g0 (fun x => by cases x)
 have q0 := fm.keep q0 (fun x => by cases x)
 have F := F.trans0 fm
 have h0 := h0.fr fm
 clear fm
 go_wp2_with fail
 obtain ⟨v, hv⟩ := tok_at h0.inb
 refine (name_any P g c ts ⟨st.i + 1, st.ok⟩ v hv x7 h0 HE.out).mono ?_
 rintro e x8 ⟨rfl, h0, fm⟩
 have g0 := fm.keep g0 (by simp; omega)
 have q0 := fm.keep q0 (by simp; omega)
 have F := F.trans fm
 obtain ⟨⟨m0, m1, m2, m3, m4, m5, m6, m7⟩, j0, j1, j2, j3, j4, j5, j6, j7⟩ := cells8 q0
 have hTx := lt_of_heap q0
 have q1 : (x8.setCell ⟨T, 2, none⟩ (.string ⟨(nameT v ⟨st.i + 1, st.ok⟩).toArray⟩)).heap[T]? = some (.cells #[.int .i64 9, .int .i64 t.at', .string ⟨(nameT v ⟨st.i + 1, st.ok⟩).toArray⟩, .int .i64 0, .string ⟨#[]⟩, .slice none 0 0, .slice none 0 0, .slice none 0 0] 27 (0, 0)) := set_at q0 2 _
 have fs := (Fr.refl [T] x8).setCell (p := ⟨T, 2, none⟩) (.inl (by simp)) (.string ⟨(nameT v ⟨st.i + 1, st.ok⟩).toArray⟩)
 have g0 := fs.keep g0 (by simp; omega)
 have h0 := h0.frL fs (by simp; omega) (by simp; omega)
 have F := F.step fs (fun x hx => .inr (by simp at hx; omega))
 have HQ := Lib.hid q1
 clear q0 q1 fs
 go_wp2_with fail
 clear m0 m1 m2 m3 m4 m5 m6 m7 j0 j1 j2 j3 j4 j5 j6 j7
 have q0 := HQ.out
 clear HQ
 generalize x8.setCell ⟨T, 2, none⟩ (.string ⟨(nameT v ⟨st.i + 1, st.ok⟩).toArray⟩) = x8n at *
 have row : RowE x8n (fun b => B < b ∧ ¬ b = T ∧ ¬ b = P) (.slice none 0 0) ([] : List ExprT) (fun _ => []) := RowG.nil_
 obtain ⟨p, hp⟩ := tok_at h0.inb
 refine (must_any [61] P g c ts (nameS v ⟨st.i + 1, st.ok⟩) p hp x8n h0 HE.out).mono ?_
 rintro e y0 ⟨rfl, h0, fm⟩
 have g0 := fm.keep g0 (by simp; omega)
 have q0 := fm.keep q0 (by simp; omega)
 have F := F.trans fm
 have row := RowG.keep (ok' := fun b => B < b ∧ ¬ b = T ∧ ¬ b = P) keepsE row (Sh.of_fr fm (fun b hb hlt => ⟨hb, by simp; exact hb.2.2⟩))
 clear fm
 obtain ⟨i0, hi, hz0, hz1, hz2⟩ := info_parts infoExpr
 have HI := Lib.hid hi
 have HZ0 := Lib.hid hz0
 have HZ1 := Lib.hid hz1
 have HZ2 := Lib.hid hz2
 clear hi hz0 hz1 hz2
 have hle1 := nameS_le2 v ⟨st.i + 1, st.ok⟩
 have hle2 := mustS_le p (nameS v ⟨st.i + 1, st.ok⟩) [61]
 simp only at hle1
 have cS := fun W hW => Lib.hid (IH.out.seq P g c (mustS p (nameS v ⟨st.i + 1, st.ok⟩) [61]) W hW (by have := HN.out; have := h0.inb; omega))
 obtain ⟨⟨l0, l1, l2, l3, l4, l5, l6, l7⟩, _⟩ := cells8 q0
 have hTwr := lt_of_heap q0
 have ROWH := Lib.hid row
 clear row
 go_wp2_with fail
 refine wp_region_last8 (fun w' => w'.cell? ⟨T, 6, none⟩ = some (.slice none 0 0)) (by kernel_rfl) (by kernel_rfl) ?hS1000 (fun K hK hHeld => ?hr1000)
 case hS1000 => go_keep
 refine held_take (i := 0) (v := ?v1001) rfl (by kernel_rfl) (by kernel_rfl) (by kernel_rfl) (fun _ _ _ h => h) (Or.inl ⟨by rfl, ?hy1001⟩) (by assumption) ?hr1001
 case hy1001 =>
  intro w' hSw
  (try dsimp only at hSw)
  go_simp
  (try with_reducible rfl)
 (try simp only [Act.put, List.setIfInBounds_toArray, List.set_cons_zero, List.set_cons_succ])
 refine held_take (i := 1) (v := ?v1002) rfl (by kernel_rfl) (by kernel_rfl) (by kernel_rfl) (fun _ _ _ h => h) (Or.inl ⟨by rfl, ?hy1002⟩) (by assumption) ?hr1002
 case hy1002 =>
  intro w' hSw
  (try dsimp only at hSw)
  go_simp
  (try with_reducible rfl)
 (try simp only [Act.put, List.setIfInBounds_toArray, List.set_cons_zero, List.set_cons_succ])
 refine held_take (i := 2) (v := ?v1003) rfl (by kernel_rfl) (by kernel_rfl) (by kernel_rfl) (fun _ _ _ h => h) (Or.inl ⟨by rfl, ?hy1003⟩) (by assumption) ?hr1003
 case hy1003 =>
  intro w' hSw
  (try dsimp only at hSw)
  go_simp
  (try with_reducible rfl)
 (try simp only [Act.put, List.setIfInBounds_toArray, List.set_cons_zero, List.set_cons_succ])
 refine held_step (i := 3) rfl (by kernel_rfl) (fun K3 hK3 => ?hr1004)
 go_simp
 refine ((cS _ (h0.fr (Fr.refl [] y0).drew)).out).mono ?_
 rintro e x8 ⟨k1, a1, nm1, n1, s1, ls1, args1, arms1, A51, n51, c51, A61, n61, c61, A71, n71, c71, st5, rfl, hx1, hr1, hst5, f8⟩
 have hst := hst5
 have Q8 := f8.keep (w := y0.drew) q0 (by simp; omega)
 have hT8 := lt_of_heap Q8
 have ROW9 := RowG.keep (w' := x8.alloc (.cells #[.int .i64 k1, .int .i64 a1, .string ⟨nm1.toArray⟩, .int .i64 n1, .string ⟨s1.toArray⟩, .slice A51 n51 c51, .slice A61 n61 c61, .slice A71 n71 c71] 27)) (ok' := fun b => B < b ∧ ¬ b = T ∧ ¬ b = P) keepsE ROWH.out (Sh.of_fr (((Fr.refl [P] y0).drew.trans f8).alloc _) (fun b hb hlt => ⟨hb, by simp; exact hb.2.2⟩))
 go_simp
 refine hK3.out _ _ ?hS1004 (fun hHeld => ?hq1004)
 case hS1004 => exact (cells8 Q8).1.2.2.2.2.2.2.1
 clear hK3 K3
 (try simp only [Act.put, List.setIfInBounds_toArray, List.set_cons_zero, List.set_cons_succ])
 refine held_step (i := 4) rfl (by kernel_rfl) (fun K4 hK4 => ?hr1005)
 go_simp
 refine hK4.out _ _ ?hS1005 (fun hHeld => ?hq1005)
 case hS1005 => exact cell_of (heap_old Q8 _) 6
 clear hK4 K4
 (try simp only [Act.put, List.setIfInBounds_toArray, List.set_cons_zero, List.set_cons_succ])
 refine held_step (i := 5) rfl (by kernel_rfl) (fun K5 hK5 => ?hr1006)
 refine step_append_fp (by rfl) _ _ 24 (by rfl) 27 i0 _ 8 128 Tryz.underlying24 HI.out HZ0.out HZ1.out HZ2.out rfl (by decide) (.slice none 0 0) 0 (flatN (fun _ => []) 0) (by rfl) ROW9.own ⟨x8.heap.size, 0, none⟩ 1 1 [.int .i64 k1, .int .i64 a1, .string ⟨nm1.toArray⟩, .int .i64 n1, .string ⟨s1.toArray⟩, .slice A51 n51 c51, .slice A61 n61 c61, .slice A71 n71 c71] (by rfl) rfl (World.news_of_block (heap_new x8 _)) (by simp [Value.oneCell']) (by decide) (by decide) ?_
 intro v9 w9 hown9 hgrow9 hfp9
 obtain ⟨g9, cp9, hv9⟩ : ∃ g cap, v9 = .slice (some ⟨g, 0, none⟩) (1) cap := own_form hown9
 subst hv9
 have Q9 := (hgrow9.block T (lt_of_heap (heap_old Q8 (.cells #[.int .i64 k1, .int .i64 a1, .string ⟨nm1.toArray⟩, .int .i64 n1, .string ⟨s1.toArray⟩, .slice A51 n51 c51, .slice A61 n61 c61, .slice A71 n71 c71] 27))) (fun e => (ROWH.out.blk T e.symm).2.1 rfl)).trans (heap_old Q8 (.cells #[.int .i64 k1, .int .i64 a1, .string ⟨nm1.toArray⟩, .int .i64 n1, .string ⟨s1.toArray⟩, .slice A51 n51 c51, .slice A61 n61 c61, .slice A71 n71 c71] 27))
 have hT9 := lt_of_heap Q9
 obtain ⟨⟨u0, u1, u2, u3, u4, u5, u6, u7⟩, z0, z1, z2, z3, z4, z5, z6, z7⟩ := cells8 Q9
 refine hK5.out _ _ ?hS1006 (fun hHeld => ?hq1006)
 case hS1006 => exact u6
 clear hK5 K5
 (try simp only [Act.put, List.setIfInBounds_toArray, List.set_cons_zero, List.set_cons_succ])
 refine held_take (i := 6) (v := ?v1007) rfl (by kernel_rfl) (by kernel_rfl) (by kernel_rfl) (fun _ _ _ h => h) (Or.inl ⟨by rfl, ?hy1007⟩) (by assumption) ?hr1007
 case hy1007 =>
  intro w' hSw
  (try dsimp only at hSw)
  go_simp
  (try with_reducible rfl)
 (try simp only [Act.put, List.setIfInBounds_toArray, List.set_cons_zero, List.set_cons_succ])
 refine wpAnyH_done (by kernel_rfl) ?hr1008 _
 refine thenLast_run rfl ?hq1008
 go_simp
 refine hK.out _ _ ?hs1008
 clear hK K
 clear l0 l1 l2 l3 l4 l5 l6 l7 u0 u1 u2 u3 u4 u5 u6 u7 z0 z1 z2 z3 z4 z5 z6 z7
 have f8 : Fr [P] y0 x8 := ((Fr.refl [P] y0).drew).trans f8
 have row := ROWH.out
 obtain ⟨F, g0, q0, h0, row, hsh, hnew, hsz⟩ := app_after (fld := 6) (size := 8) keepsE f8 hx1 rfl hst g0 q0 row F (by omega) (by omega) (by omega) (by omega) (by omega) (by omega) (by omega) hown9 hgrow9 hfp9 (VV' := #[.int .i64 9, .int .i64 t.at', .string ⟨(nameT v ⟨st.i + 1, st.ok⟩).toArray⟩, .int .i64 0, .string ⟨#[]⟩, .slice none 0 0, .slice (some ⟨g9, 0, none⟩) 1 cp9, .slice none 0 0]) rfl
 clear ROWH ROW9 Q8 Q9 hown9 hgrow9 hfp9 f8 hst hT8 hT9 hTwr
 generalize w9.setCell ⟨T, 6, none⟩ (.slice (some ⟨g9, 0, none⟩) 1 cp9) = y1 at *
 clear hsh hnew hsz cS
 go_wp2_with fail
 obtain ⟨q, hq⟩ := tok_at h0.inb
 refine (must_any [105, 110] P g c ts st5 q hq y1 h0 HE.out).mono ?_
 rintro e y2 ⟨rfl, h0, fm⟩
 have g0 := fm.keep g0 (by simp; omega)
 have q0 := fm.keep q0 (by simp; omega)
 have F := F.trans fm
 have row := RowG.keep (ok' := fun b => B < b ∧ ¬ b = T ∧ ¬ b = P) keepsE row (Sh.of_fr fm (fun b hb hlt => ⟨hb, by simp; exact hb.2.2⟩))
 clear fm
 have hle3 := hr1.le
 have hle4 := mustS_le q st5 [105, 110]
 have cS := fun W hW => Lib.hid (IH.out.seq P g c (mustS q st5 [105, 110]) W hW (by have := HN.out; have := h0.inb; omega))
 obtain ⟨⟨l0, l1, l2, l3, l4, l5, l6, l7⟩, _⟩ := cells8 q0
 have hTwr := lt_of_heap q0
 have ROWH := Lib.hid row
 clear row
 go_wp2_with fail
 refine wp_region_last8 (fun w' => w'.cell? ⟨T, 6, none⟩ = some (.slice (some ⟨g9, 0, none⟩) 1 cp9)) (by kernel_rfl) (by kernel_rfl) ?hS1009 (fun K hK hHeld => ?hr1009)
 case hS1009 => go_keep
 refine held_take (i := 0) (v := ?v1010) rfl (by kernel_rfl) (by kernel_rfl) (by kernel_rfl) (fun _ _ _ h => h) (Or.inl ⟨by rfl, ?hy1010⟩) (by assumption) ?hr1010
 case hy1010 =>
  intro w' hSw
  (try dsimp only at hSw)
  go_simp
  (try with_reducible rfl)
 (try simp only [Act.put, List.setIfInBounds_toArray, List.set_cons_zero, List.set_cons_succ])
 refine held_take (i := 1) (v := ?v1011) rfl (by kernel_rfl) (by kernel_rfl) (by kernel_rfl) (fun _ _ _ h => h) (Or.inl ⟨by rfl, ?hy1011⟩) (by assumption) ?hr1011
 case hy1011 =>
  intro w' hSw
  (try dsimp only at hSw)
  go_simp
  (try with_reducible rfl)
 (try simp only [Act.put, List.setIfInBounds_toArray, List.set_cons_zero, List.set_cons_succ])
 refine held_take (i := 2) (v := ?v1012) rfl (by kernel_rfl) (by kernel_rfl) (by kernel_rfl) (fun _ _ _ h => h) (Or.inl ⟨by rfl, ?hy1012⟩) (by assumption) ?hr1012
 case hy1012 =>
  intro w' hSw
  (try dsimp only at hSw)
  go_simp
  (try with_reducible rfl)
 (try simp only [Act.put, List.setIfInBounds_toArray, List.set_cons_zero, List.set_cons_succ])
 refine held_step (i := 3) rfl (by kernel_rfl) (fun K3 hK3 => ?hr1013)
 go_simp
 refine ((cS _ (h0.fr (Fr.refl [] y2).drew)).out).mono ?_
 rintro e x8 ⟨k2, a2, nm2, n2, s2, ls2, args2, arms2, A52, n52, c52, A62, n62, c62, A72, n72, c72, st7, rfl, hx2, hr2, hst7, f8⟩
 have hst := hst7
 have Q8 := f8.keep (w := y2.drew) q0 (by simp; omega)
 have hT8 := lt_of_heap Q8
 have ROW9 := RowG.keep (w' := x8.alloc (.cells #[.int .i64 k2, .int .i64 a2, .string ⟨nm2.toArray⟩, .int .i64 n2, .string ⟨s2.toArray⟩, .slice A52 n52 c52, .slice A62 n62 c62, .slice A72 n72 c72] 27)) (ok' := fun b => B < b ∧ ¬ b = T ∧ ¬ b = P) keepsE ROWH.out (Sh.of_fr (((Fr.refl [P] y2).drew.trans f8).alloc _) (fun b hb hlt => ⟨hb, by simp; exact hb.2.2⟩))
 go_simp
 refine hK3.out _ _ ?hS1013 (fun hHeld => ?hq1013)
 case hS1013 => exact (cells8 Q8).1.2.2.2.2.2.2.1
 clear hK3 K3
 (try simp only [Act.put, List.setIfInBounds_toArray, List.set_cons_zero, List.set_cons_succ])
 refine held_step (i := 4) rfl (by kernel_rfl) (fun K4 hK4 => ?hr1014)
 go_simp
 refine hK4.out _ _ ?hS1014 (fun hHeld => ?hq1014)
 case hS1014 => exact cell_of (heap_old Q8 _) 6
 clear hK4 K4
 (try simp only [Act.put, List.setIfInBounds_toArray, List.set_cons_zero, List.set_cons_succ])
 refine held_step (i := 5) rfl (by kernel_rfl) (fun K5 hK5 => ?hr1015)
 refine step_append_fp (by rfl) _ _ 24 (by rfl) 27 i0 _ 8 128 Tryz.underlying24 HI.out HZ0.out HZ1.out HZ2.out rfl (by decide) (.slice (some ⟨g9, 0, none⟩) 1 cp9) 1 (flatN (fun i => if i = ([] : List ExprT).length then [.int .i64 k1, .int .i64 a1, .string ⟨nm1.toArray⟩, .int .i64 n1, .string ⟨s1.toArray⟩, .slice A51 n51 c51, .slice A61 n61 c61, .slice A71 n71 c71] else []) 1) (by rfl) ROW9.own ⟨x8.heap.size, 0, none⟩ 1 1 [.int .i64 k2, .int .i64 a2, .string ⟨nm2.toArray⟩, .int .i64 n2, .string ⟨s2.toArray⟩, .slice A52 n52 c52, .slice A62 n62 c62, .slice A72 n72 c72] (by rfl) rfl (World.news_of_block (heap_new x8 _)) (by simp [Value.oneCell']) (by decide) (by decide) ?_
 intro v9 w9 hown9 hgrow9 hfp9
 obtain ⟨g8, cp8, hv9⟩ : ∃ g cap, v9 = .slice (some ⟨g, 0, none⟩) (2) cap := own_form hown9
 subst hv9
 have Q9 := (hgrow9.block T (lt_of_heap (heap_old Q8 (.cells #[.int .i64 k2, .int .i64 a2, .string ⟨nm2.toArray⟩, .int .i64 n2, .string ⟨s2.toArray⟩, .slice A52 n52 c52, .slice A62 n62 c62, .slice A72 n72 c72] 27))) (fun e => (ROWH.out.blk T e.symm).2.1 rfl)).trans (heap_old Q8 (.cells #[.int .i64 k2, .int .i64 a2, .string ⟨nm2.toArray⟩, .int .i64 n2, .string ⟨s2.toArray⟩, .slice A52 n52 c52, .slice A62 n62 c62, .slice A72 n72 c72] 27))
 have hT9 := lt_of_heap Q9
 obtain ⟨⟨u0, u1, u2, u3, u4, u5, u6, u7⟩, z0, z1, z2, z3, z4, z5, z6, z7⟩ := cells8 Q9
 refine hK5.out _ _ ?hS1015 (fun hHeld => ?hq1015)
 case hS1015 => exact u6
 clear hK5 K5
 (try simp only [Act.put, List.setIfInBounds_toArray, List.set_cons_zero, List.set_cons_succ])
 refine held_take (i := 6) (v := ?v1016) rfl (by kernel_rfl) (by kernel_rfl) (by kernel_rfl) (fun _ _ _ h => h) (Or.inl ⟨by rfl, ?hy1016⟩) (by assumption) ?hr1016
 case hy1016 =>
  intro w' hSw
  (try dsimp only at hSw)
  go_simp
  (try with_reducible rfl)
 (try simp only [Act.put, List.setIfInBounds_toArray, List.set_cons_zero, List.set_cons_succ])
 refine wpAnyH_done (by kernel_rfl) ?hr1017 _
 refine thenLast_run rfl ?hq1017
 go_simp
 refine hK.out _ _ ?hs1017
 clear hK K
 clear l0 l1 l2 l3 l4 l5 l6 l7 u0 u1 u2 u3 u4 u5 u6 u7 z0 z1 z2 z3 z4 z5 z6 z7
 have f8 : Fr [P] y2 x8 := ((Fr.refl [P] y2).drew).trans f8
 have row := ROWH.out
 obtain ⟨F, g0, q0, h0, row, hsh, hnew, hsz⟩ := app_after (fld := 6) (size := 8) keepsE f8 hx2 rfl hst g0 q0 row F (by omega) (by omega) (by omega) (by omega) (by omega) (by omega) (by omega) hown9 hgrow9 hfp9 (VV' := #[.int .i64 9, .int .i64 t.at', .string ⟨(nameT v ⟨st.i + 1, st.ok⟩).toArray⟩, .int .i64 0, .string ⟨#[]⟩, .slice none 0 0, .slice (some ⟨g8, 0, none⟩) 2 cp8, .slice none 0 0]) rfl
 clear ROWH ROW9 Q8 Q9 hown9 hgrow9 hfp9 f8 hst hT8 hT9 hTwr
 generalize w9.setCell ⟨T, 6, none⟩ (.slice (some ⟨g8, 0, none⟩) 2 cp8) = y3 at *
 clear hsh hnew hsz cS
 have hBT2 := lt_of_heap g0
 have row0 := RowG.keep (ok' := fun b => B < b) keepsE row (Sh.of_fr (Fr.refl [] y3) (fun b hb hlt => ⟨hb.1, fun x => by cases x⟩))
 obtain ⟨⟨l0, l1, l2, l3, l4, l5, l6, l7⟩, _⟩ := cells8 q0
 obtain ⟨⟨u0, u1, u2, u3, u4, u5, u6, u7⟩, z0, z1, z2, z3, z4, z5, z6, z7⟩ := cells8 g0
 clear row
 have HG := Lib.hid (st8_heap g0 (.int .i64 9) (.int .i64 t.at') (.string ⟨(nameT v ⟨st.i + 1, st.ok⟩).toArray⟩) (.int .i64 0) (.string ⟨#[]⟩) (.slice none 0 0) (.slice (some ⟨g8, 0, none⟩) 2 cp8) (.slice none 0 0))
 have HF := Lib.hid ((F).step (st8_fr y3 B (.int .i64 9) (.int .i64 t.at') (.string ⟨(nameT v ⟨st.i + 1, st.ok⟩).toArray⟩) (.int .i64 0) (.string ⟨#[]⟩) (.slice none 0 0) (.slice (some ⟨g8, 0, none⟩) 2 cp8) (.slice none 0 0)) (fun x hx => .inr (by simp at hx; omega)))
 have HP := Lib.hid ((h0).frL (st8_fr y3 B (.int .i64 9) (.int .i64 t.at') (.string ⟨(nameT v ⟨st.i + 1, st.ok⟩).toArray⟩) (.int .i64 0) (.string ⟨#[]⟩) (.slice none 0 0) (.slice (some ⟨g8, 0, none⟩) 2 cp8) (.slice none 0 0)) (by simpa using nP) (by simpa using ng))
 have HR := Lib.hid (RowG.keep (ok' := fun b => B ≤ b) keepsE row0 (Sh.of_fr (st8_fr y3 B (.int .i64 9) (.int .i64 t.at') (.string ⟨(nameT v ⟨st.i + 1, st.ok⟩).toArray⟩) (.int .i64 0) (.string ⟨#[]⟩) (.slice none 0 0) (.slice (some ⟨g8, 0, none⟩) 2 cp8) (.slice none 0 0)) (fun b hb hlt => ⟨by omega, by simp; omega⟩)))
 unfold st8 at HG HF HP HR
 go_wp2_with fail
 generalize (((((((y3.setCell ⟨B, 0, none⟩ (.int .i64 9)).setCell ⟨B, 1, none⟩ (.int .i64 t.at')).setCell ⟨B, 2, none⟩ (.string ⟨(nameT v ⟨st.i + 1, st.ok⟩).toArray⟩)).setCell ⟨B, 3, none⟩ (.int .i64 0)).setCell ⟨B, 4, none⟩ (.string ⟨#[]⟩)).setCell ⟨B, 5, none⟩ (.slice none 0 0)).setCell ⟨B, 6, none⟩ (.slice (some ⟨g8, 0, none⟩) 2 cp8)).setCell ⟨B, 7, none⟩ (.slice none 0 0) = Z at HG HF HP HR ⊢
 obtain ⟨⟨d0, d1, d2, d3, d4, d5, d6, d7⟩, _⟩ := cells8 HG.out
 have hxx := ExprAt.of_rows (k := 9) (a := t.at') (nm := nameT v ⟨st.i + 1, st.ok⟩) (n := 0) (s := []) (c5 := fun _ => []) (c7 := fun _ => []) RowG.nil_ HR.out RowG.nil_
 refine bodyPost_ret (v := .agg #[.int .i64 9, .int .i64 t.at', .string ⟨(nameT v ⟨st.i + 1, st.ok⟩).toArray⟩, .int .i64 0, .string ⟨#[]⟩, .slice none 0 0, .slice (some ⟨g8, 0, none⟩) 2 cp8, .slice none 0 0]) ?_ rfl ?_
 ·simp [results, Tryz.f33, go_sem, d0, d1, d2, d3, d4, d5, d6, d7]
 ·exact ⟨_, _, _, _, _, _, _, _, _, _, _, _, _, _, _, _, _, _, rfl, by rw [hB]; exact hxx, .look HT.out (.may_yes HT.out HB0.out (.thn (.may_no hu (HRC.out u hu) (.name_ hv (.must_ hp (.callE hr1 (.must_ hq (.callE hr2 .retE)))))))), HP.out, HF.out⟩
end Go.Proofs.YtpjkfeehgookkaaGreatDoor
namespace Go.Proofs.YtpjkfeehgookkaaGreatDoor
open Go.RowKit
attribute [local go_sem ↓] Go.wp_at_zero Go.wp_at_succ
set_option maxHeartbeats 8000000 in
set_option maxRecDepth 100000 in
theorem item_It2 (ts : List Tok) (hE : EndOk ts) (N : Nat) (ih : AllE ts N) (P g c : Nat) (st : St) (w : World) (h : PSt P g c ts st w) (hm : 16 * (ts.length - st.i) + 12 < N + 1) (t : Tok) (ht : ts[st.i]? = some t) (hb0 : isB t st.ok [[108, 101, 116]] = true) (hr : ∀ u, ts[st.i + 1]? = some u → isB u st.ok [[114, 101, 99]] = true) : Calls Tryz.prog 33 #[.pointer (some ⟨P, 0, none⟩)] w (ExOk P g c ts st (body .item) w) := by
 have HRC : Hid (∀ u, ts[st.i + 1]? = some u → isB u st.ok [[114, 101, 99]] = true) := Lib.hid hr
 clear hr
 have HB0 := Lib.hid hb0
 clear hb0
 have H := Lib.hid h
 have hP := lt_of_heap h.blk
 have hgl := h.lt
 have hin := h.inb
 have HN := Lib.hid hm
 have HE := Lib.hid hE
 have IH := Lib.hid ih
 clear h hm hE ih
 go_enter Tryz.func33, Tryz.ntmps33
 go_wp2_with fail
 have f0 : Fr [] w (w.alloc (.cells #[.int .i64 0, .int .i64 0, .string ⟨#[]⟩, .int .i64 0, .string ⟨#[]⟩, .slice none 0 0, .slice none 0 0, .slice none 0 0] 27)) := (Fr.refl [] w).alloc _
 have g0 := heap_new w (.cells #[.int .i64 0, .int .i64 0, .string ⟨#[]⟩, .int .i64 0, .string ⟨#[]⟩, .slice none 0 0, .slice none 0 0, .slice none 0 0] 27)
 generalize w.alloc (.cells #[.int .i64 0, .int .i64 0, .string ⟨#[]⟩, .int .i64 0, .string ⟨#[]⟩, .slice none 0 0, .slice none 0 0, .slice none 0 0] 27) = w1 at *
 generalize hB : w.heap.size = B at *
 have hB1 := lt_of_heap g0
 have nP : ¬ P = B := by omega
 have nB : ¬ B = P := by omega
 have ng : ¬ g = B := by omega
 have HT := Lib.hid ht
 refine (now_any P g c ts st t ht w1 (H.out.fr f0) HE.out).mono ?_
 rintro e x3 ⟨rfl, f3⟩
 go_wp2_with fail
 have q3 := heap_new x3 (.cells #[.int .i64 t.k, .int .i64 t.at', .string ⟨t.text.toArray⟩, .int .i64 t.n] 46)
 have fb4 : Fr [] x3 (x3.alloc (.cells #[.int .i64 t.k, .int .i64 t.at', .string ⟨t.text.toArray⟩, .int .i64 t.n] 46)) := (Fr.refl [] x3).alloc _
 generalize x3.alloc (.cells #[.int .i64 t.k, .int .i64 t.at', .string ⟨t.text.toArray⟩, .int .i64 t.n] 46) = x4 at *
 have hT4 := lt_of_heap q3
 have hs3 := f3.size
 generalize x3.heap.size = T3 at *
 have f4 := (f0.trans f3).trans fb4
 have g0 := (f3.trans fb4).keep g0 (fun x => by cases x)
 have h4 := H.out.fr f4
 have hPB : P < B := by omega
 have hgB : g < B := by omega
 have hBw : w.heap.size ≤ B := by omega
 have hBT3 : B < T3 := by have := (f0.trans f3).size; have := lt_of_heap g0; omega
 clear f0 f3 fb4
 refine (may_yes [108, 101, 116] P g c ts st t HT.out HB0.out x4 h4 HE.out).mono ?_
 rintro e x5 ⟨rfl, h0, f5⟩
 have g0 := f5.keep g0 (by simpa using nB)
 have q3 := f5.keep q3 (by simp; omega)
 have F : Fr [P] w x5 := (f4.mono (fun x hx => by cases hx)).trans f5
 have hs5 := lt_of_heap g0
 clear f4 f5 h4 hT4 hs3
 obtain ⟨m0, m1, m2, m3, _⟩ := cells4 q3
 go_wp2_with fail
 have q0 := heap_new x5 (.cells #[.int .i64 9, .int .i64 t.at', .string ⟨#[]⟩, .int .i64 0, .string ⟨#[]⟩, .slice none 0 0, .slice none 0 0, .slice none 0 0] 27)
 have fb : Fr [] x5 (x5.alloc (.cells #[.int .i64 9, .int .i64 t.at', .string ⟨#[]⟩, .int .i64 0, .string ⟨#[]⟩, .slice none 0 0, .slice none 0 0, .slice none 0 0] 27)) := (Fr.refl [] x5).alloc _
 generalize x5.alloc (.cells #[.int .i64 9, .int .i64 t.at', .string ⟨#[]⟩, .int .i64 0, .string ⟨#[]⟩, .slice none 0 0, .slice none 0 0, .slice none 0 0] 27) = x6 at *
 have hBT : B < x5.heap.size := lt_of_heap g0
 generalize x5.heap.size = T at *
 have g0 := fb.keep g0 (fun x => by cases x)
 have h0 := h0.fr fb
 have F := F.trans0 fb
 clear fb
 clear m0 m1 m2 m3 q3
 obtain ⟨u, hu⟩ := tok_at h0.inb
 refine (may_yes [114, 101, 99] P g c ts ⟨st.i + 1, st.ok⟩ u hu (HRC.out u hu) x6 h0 HE.out).mono ?_
 rintro e x7 ⟨rfl, h0, fm⟩
 have g0 := fm.keep g0 (by simp; omega)
 have q0 := fm.keep q0 (by simp; omega)
 have F := F.trans fm
 clear fm
 go_wp2_with fail
 obtain ⟨v, hv⟩ := tok_at h0.inb
 refine (name_any P g c ts ⟨st.i + 1 + 1, st.ok⟩ v hv x7 h0 HE.out).mono ?_
 rintro e x8 ⟨rfl, h0, fm⟩
 have g0 := fm.keep g0 (by simp; omega)
 have q0 := fm.keep q0 (by simp; omega)
 have F := F.trans fm
 obtain ⟨⟨m0, m1, m2, m3, m4, m5, m6, m7⟩, j0, j1, j2, j3, j4, j5, j6, j7⟩ := cells8 q0
 have hTx := lt_of_heap q0
 have q1 : (x8.setCell ⟨T, 2, none⟩ (.string ⟨(nameT v ⟨st.i + 1 + 1, st.ok⟩).toArray⟩)).heap[T]? = some (.cells #[.int .i64 9, .int .i64 t.at', .string ⟨(nameT v ⟨st.i + 1 + 1, st.ok⟩).toArray⟩, .int .i64 0, .string ⟨#[]⟩, .slice none 0 0, .slice none 0 0, .slice none 0 0] 27 (0, 0)) := set_at q0 2 _
 have fs := (Fr.refl [T] x8).setCell (p := ⟨T, 2, none⟩) (.inl (by simp)) (.string ⟨(nameT v ⟨st.i + 1 + 1, st.ok⟩).toArray⟩)
 have g0 := fs.keep g0 (by simp; omega)
 have h0 := h0.frL fs (by simp; omega) (by simp; omega)
 have F := F.step fs (fun x hx => .inr (by simp at hx; omega))
 have HQ := Lib.hid q1
 clear q0 q1 fs
 go_wp2_with fail
 clear m0 m1 m2 m3 m4 m5 m6 m7 j0 j1 j2 j3 j4 j5 j6 j7
 have q0 := HQ.out
 clear HQ
 generalize x8.setCell ⟨T, 2, none⟩ (.string ⟨(nameT v ⟨st.i + 1 + 1, st.ok⟩).toArray⟩) = x8n at *
 have row : RowE x8n (fun b => B < b ∧ ¬ b = T ∧ ¬ b = P) (.slice none 0 0) ([] : List ExprT) (fun _ => []) := RowG.nil_
 obtain ⟨p, hp⟩ := tok_at h0.inb
 refine (must_any [61] P g c ts (nameS v ⟨st.i + 1 + 1, st.ok⟩) p hp x8n h0 HE.out).mono ?_
 rintro e y0 ⟨rfl, h0, fm⟩
 have g0 := fm.keep g0 (by simp; omega)
 have q0 := fm.keep q0 (by simp; omega)
 have F := F.trans fm
 have row := RowG.keep (ok' := fun b => B < b ∧ ¬ b = T ∧ ¬ b = P) keepsE row (Sh.of_fr fm (fun b hb hlt => ⟨hb, by simp; exact hb.2.2⟩))
 clear fm
 obtain ⟨⟨m0, m1, m2, m3, m4, m5, m6, m7⟩, j0, j1, j2, j3, j4, j5, j6, j7⟩ := cells8 q0
 have hTx := lt_of_heap q0
 have q1 : (y0.setCell ⟨T, 0, none⟩ (.int .i64 10)).heap[T]? = some (.cells #[.int .i64 10, .int .i64 t.at', .string ⟨(nameT v ⟨st.i + 1 + 1, st.ok⟩).toArray⟩, .int .i64 0, .string ⟨#[]⟩, .slice none 0 0, .slice none 0 0, .slice none 0 0] 27 (0, 0)) := set_at q0 0 _
 have fs := (Fr.refl [T] y0).setCell (p := ⟨T, 0, none⟩) (.inl (by simp)) (.int .i64 10)
 have g0 := fs.keep g0 (by simp; omega)
 have h0 := h0.frL fs (by simp; omega) (by simp; omega)
 have F := F.step fs (fun x hx => .inr (by simp at hx; omega))
 have HQ := Lib.hid q1
 clear q0 q1 fs
 go_wp2_with fail
 clear m0 m1 m2 m3 m4 m5 m6 m7 j0 j1 j2 j3 j4 j5 j6 j7
 have q0 := HQ.out
 clear HQ
 generalize y0.setCell ⟨T, 0, none⟩ (.int .i64 10) = y0n at *
 have row : RowE y0n (fun b => B < b ∧ ¬ b = T ∧ ¬ b = P) (.slice none 0 0) ([] : List ExprT) (fun _ => []) := RowG.nil_
 obtain ⟨i0, hi, hz0, hz1, hz2⟩ := info_parts infoExpr
 have HI := Lib.hid hi
 have HZ0 := Lib.hid hz0
 have HZ1 := Lib.hid hz1
 have HZ2 := Lib.hid hz2
 clear hi hz0 hz1 hz2
 have hle1 := nameS_le2 v ⟨st.i + 1 + 1, st.ok⟩
 have hle2 := mustS_le p (nameS v ⟨st.i + 1 + 1, st.ok⟩) [61]
 simp only at hle1
 have cS := fun W hW => Lib.hid (IH.out.fn P g c (mustS p (nameS v ⟨st.i + 1 + 1, st.ok⟩) [61]) W hW (by have := HN.out; have := h0.inb; omega))
 obtain ⟨⟨l0, l1, l2, l3, l4, l5, l6, l7⟩, _⟩ := cells8 q0
 have hTwr := lt_of_heap q0
 have ROWH := Lib.hid row
 clear row
 go_wp2_with fail
 refine wp_region_last8 (fun w' => w'.cell? ⟨T, 6, none⟩ = some (.slice none 0 0)) (by kernel_rfl) (by kernel_rfl) ?hS1018 (fun K hK hHeld => ?hr1018)
 case hS1018 => go_keep
 refine held_take (i := 0) (v := ?v1019) rfl (by kernel_rfl) (by kernel_rfl) (by kernel_rfl) (fun _ _ _ h => h) (Or.inl ⟨by rfl, ?hy1019⟩) (by assumption) ?hr1019
 case hy1019 =>
  intro w' hSw
  (try dsimp only at hSw)
  go_simp
  (try with_reducible rfl)
 (try simp only [Act.put, List.setIfInBounds_toArray, List.set_cons_zero, List.set_cons_succ])
 refine held_take (i := 1) (v := ?v1020) rfl (by kernel_rfl) (by kernel_rfl) (by kernel_rfl) (fun _ _ _ h => h) (Or.inl ⟨by rfl, ?hy1020⟩) (by assumption) ?hr1020
 case hy1020 =>
  intro w' hSw
  (try dsimp only at hSw)
  go_simp
  (try with_reducible rfl)
 (try simp only [Act.put, List.setIfInBounds_toArray, List.set_cons_zero, List.set_cons_succ])
 refine held_take (i := 2) (v := ?v1021) rfl (by kernel_rfl) (by kernel_rfl) (by kernel_rfl) (fun _ _ _ h => h) (Or.inl ⟨by rfl, ?hy1021⟩) (by assumption) ?hr1021
 case hy1021 =>
  intro w' hSw
  (try dsimp only at hSw)
  go_simp
  (try with_reducible rfl)
 (try simp only [Act.put, List.setIfInBounds_toArray, List.set_cons_zero, List.set_cons_succ])
 refine held_step (i := 3) rfl (by kernel_rfl) (fun K3 hK3 => ?hr1022)
 go_simp
 refine ((cS _ (h0.fr (Fr.refl [] y0n).drew)).out).mono ?_
 rintro e x8 ⟨k1, a1, nm1, n1, s1, ls1, args1, arms1, A51, n51, c51, A61, n61, c61, A71, n71, c71, st5, rfl, hx1, hr1, hst5, f8⟩
 have hst := hst5
 have Q8 := f8.keep (w := y0n.drew) q0 (by simp; omega)
 have hT8 := lt_of_heap Q8
 have ROW9 := RowG.keep (w' := x8.alloc (.cells #[.int .i64 k1, .int .i64 a1, .string ⟨nm1.toArray⟩, .int .i64 n1, .string ⟨s1.toArray⟩, .slice A51 n51 c51, .slice A61 n61 c61, .slice A71 n71 c71] 27)) (ok' := fun b => B < b ∧ ¬ b = T ∧ ¬ b = P) keepsE ROWH.out (Sh.of_fr (((Fr.refl [P] y0n).drew.trans f8).alloc _) (fun b hb hlt => ⟨hb, by simp; exact hb.2.2⟩))
 go_simp
 refine hK3.out _ _ ?hS1022 (fun hHeld => ?hq1022)
 case hS1022 => exact (cells8 Q8).1.2.2.2.2.2.2.1
 clear hK3 K3
 (try simp only [Act.put, List.setIfInBounds_toArray, List.set_cons_zero, List.set_cons_succ])
 refine held_step (i := 4) rfl (by kernel_rfl) (fun K4 hK4 => ?hr1023)
 go_simp
 refine hK4.out _ _ ?hS1023 (fun hHeld => ?hq1023)
 case hS1023 => exact cell_of (heap_old Q8 _) 6
 clear hK4 K4
 (try simp only [Act.put, List.setIfInBounds_toArray, List.set_cons_zero, List.set_cons_succ])
 refine held_step (i := 5) rfl (by kernel_rfl) (fun K5 hK5 => ?hr1024)
 refine step_append_fp (by rfl) _ _ 24 (by rfl) 27 i0 _ 8 128 Tryz.underlying24 HI.out HZ0.out HZ1.out HZ2.out rfl (by decide) (.slice none 0 0) 0 (flatN (fun _ => []) 0) (by rfl) ROW9.own ⟨x8.heap.size, 0, none⟩ 1 1 [.int .i64 k1, .int .i64 a1, .string ⟨nm1.toArray⟩, .int .i64 n1, .string ⟨s1.toArray⟩, .slice A51 n51 c51, .slice A61 n61 c61, .slice A71 n71 c71] (by rfl) rfl (World.news_of_block (heap_new x8 _)) (by simp [Value.oneCell']) (by decide) (by decide) ?_
 intro v9 w9 hown9 hgrow9 hfp9
 obtain ⟨g9, cp9, hv9⟩ : ∃ g cap, v9 = .slice (some ⟨g, 0, none⟩) (1) cap := own_form hown9
 subst hv9
 have Q9 := (hgrow9.block T (lt_of_heap (heap_old Q8 (.cells #[.int .i64 k1, .int .i64 a1, .string ⟨nm1.toArray⟩, .int .i64 n1, .string ⟨s1.toArray⟩, .slice A51 n51 c51, .slice A61 n61 c61, .slice A71 n71 c71] 27))) (fun e => (ROWH.out.blk T e.symm).2.1 rfl)).trans (heap_old Q8 (.cells #[.int .i64 k1, .int .i64 a1, .string ⟨nm1.toArray⟩, .int .i64 n1, .string ⟨s1.toArray⟩, .slice A51 n51 c51, .slice A61 n61 c61, .slice A71 n71 c71] 27))
 have hT9 := lt_of_heap Q9
 obtain ⟨⟨u0, u1, u2, u3, u4, u5, u6, u7⟩, z0, z1, z2, z3, z4, z5, z6, z7⟩ := cells8 Q9
 refine hK5.out _ _ ?hS1024 (fun hHeld => ?hq1024)
 case hS1024 => exact u6
 clear hK5 K5
 (try simp only [Act.put, List.setIfInBounds_toArray, List.set_cons_zero, List.set_cons_succ])
 refine held_take (i := 6) (v := ?v1025) rfl (by kernel_rfl) (by kernel_rfl) (by kernel_rfl) (fun _ _ _ h => h) (Or.inl ⟨by rfl, ?hy1025⟩) (by assumption) ?hr1025
 case hy1025 =>
  intro w' hSw
  (try dsimp only at hSw)
  go_simp
  (try with_reducible rfl)
 (try simp only [Act.put, List.setIfInBounds_toArray, List.set_cons_zero, List.set_cons_succ])
 refine wpAnyH_done (by kernel_rfl) ?hr1026 _
 refine thenLast_run rfl ?hq1026
 go_simp
 refine hK.out _ _ ?hs1026
 clear hK K
 clear l0 l1 l2 l3 l4 l5 l6 l7 u0 u1 u2 u3 u4 u5 u6 u7 z0 z1 z2 z3 z4 z5 z6 z7
 have f8 : Fr [P] y0n x8 := ((Fr.refl [P] y0n).drew).trans f8
 have row := ROWH.out
 obtain ⟨F, g0, q0, h0, row, hsh, hnew, hsz⟩ := app_after (fld := 6) (size := 8) keepsE f8 hx1 rfl hst g0 q0 row F (by omega) (by omega) (by omega) (by omega) (by omega) (by omega) (by omega) hown9 hgrow9 hfp9 (VV' := #[.int .i64 10, .int .i64 t.at', .string ⟨(nameT v ⟨st.i + 1 + 1, st.ok⟩).toArray⟩, .int .i64 0, .string ⟨#[]⟩, .slice none 0 0, .slice (some ⟨g9, 0, none⟩) 1 cp9, .slice none 0 0]) rfl
 clear ROWH ROW9 Q8 Q9 hown9 hgrow9 hfp9 f8 hst hT8 hT9 hTwr
 generalize w9.setCell ⟨T, 6, none⟩ (.slice (some ⟨g9, 0, none⟩) 1 cp9) = y1 at *
 clear hsh hnew hsz cS
 go_wp2_with fail
 obtain ⟨q, hq⟩ := tok_at h0.inb
 refine (must_any [105, 110] P g c ts st5 q hq y1 h0 HE.out).mono ?_
 rintro e y2 ⟨rfl, h0, fm⟩
 have g0 := fm.keep g0 (by simp; omega)
 have q0 := fm.keep q0 (by simp; omega)
 have F := F.trans fm
 have row := RowG.keep (ok' := fun b => B < b ∧ ¬ b = T ∧ ¬ b = P) keepsE row (Sh.of_fr fm (fun b hb hlt => ⟨hb, by simp; exact hb.2.2⟩))
 clear fm
 have hle3 := hr1.le
 have hle4 := mustS_le q st5 [105, 110]
 have cS := fun W hW => Lib.hid (IH.out.seq P g c (mustS q st5 [105, 110]) W hW (by have := HN.out; have := h0.inb; omega))
 obtain ⟨⟨l0, l1, l2, l3, l4, l5, l6, l7⟩, _⟩ := cells8 q0
 have hTwr := lt_of_heap q0
 have ROWH := Lib.hid row
 clear row
 go_wp2_with fail
 refine wp_region_last8 (fun w' => w'.cell? ⟨T, 6, none⟩ = some (.slice (some ⟨g9, 0, none⟩) 1 cp9)) (by kernel_rfl) (by kernel_rfl) ?hS1027 (fun K hK hHeld => ?hr1027)
 case hS1027 => go_keep
 refine held_take (i := 0) (v := ?v1028) rfl (by kernel_rfl) (by kernel_rfl) (by kernel_rfl) (fun _ _ _ h => h) (Or.inl ⟨by rfl, ?hy1028⟩) (by assumption) ?hr1028
 case hy1028 =>
  intro w' hSw
  (try dsimp only at hSw)
  go_simp
  (try with_reducible rfl)
 (try simp only [Act.put, List.setIfInBounds_toArray, List.set_cons_zero, List.set_cons_succ])
 refine held_take (i := 1) (v := ?v1029) rfl (by kernel_rfl) (by kernel_rfl) (by kernel_rfl) (fun _ _ _ h => h) (Or.inl ⟨by rfl, ?hy1029⟩) (by assumption) ?hr1029
 case hy1029 =>
  intro w' hSw
  (try dsimp only at hSw)
  go_simp
  (try with_reducible rfl)
 (try simp only [Act.put, List.setIfInBounds_toArray, List.set_cons_zero, List.set_cons_succ])
 refine held_take (i := 2) (v := ?v1030) rfl (by kernel_rfl) (by kernel_rfl) (by kernel_rfl) (fun _ _ _ h => h) (Or.inl ⟨by rfl, ?hy1030⟩) (by assumption) ?hr1030
 case hy1030 =>
  intro w' hSw
  (try dsimp only at hSw)
  go_simp
  (try with_reducible rfl)
 (try simp only [Act.put, List.setIfInBounds_toArray, List.set_cons_zero, List.set_cons_succ])
 refine held_step (i := 3) rfl (by kernel_rfl) (fun K3 hK3 => ?hr1031)
 go_simp
 refine ((cS _ (h0.fr (Fr.refl [] y2).drew)).out).mono ?_
 rintro e x8 ⟨k2, a2, nm2, n2, s2, ls2, args2, arms2, A52, n52, c52, A62, n62, c62, A72, n72, c72, st7, rfl, hx2, hr2, hst7, f8⟩
 have hst := hst7
 have Q8 := f8.keep (w := y2.drew) q0 (by simp; omega)
 have hT8 := lt_of_heap Q8
 have ROW9 := RowG.keep (w' := x8.alloc (.cells #[.int .i64 k2, .int .i64 a2, .string ⟨nm2.toArray⟩, .int .i64 n2, .string ⟨s2.toArray⟩, .slice A52 n52 c52, .slice A62 n62 c62, .slice A72 n72 c72] 27)) (ok' := fun b => B < b ∧ ¬ b = T ∧ ¬ b = P) keepsE ROWH.out (Sh.of_fr (((Fr.refl [P] y2).drew.trans f8).alloc _) (fun b hb hlt => ⟨hb, by simp; exact hb.2.2⟩))
 go_simp
 refine hK3.out _ _ ?hS1031 (fun hHeld => ?hq1031)
 case hS1031 => exact (cells8 Q8).1.2.2.2.2.2.2.1
 clear hK3 K3
 (try simp only [Act.put, List.setIfInBounds_toArray, List.set_cons_zero, List.set_cons_succ])
 refine held_step (i := 4) rfl (by kernel_rfl) (fun K4 hK4 => ?hr1032)
 go_simp
 refine hK4.out _ _ ?hS1032 (fun hHeld => ?hq1032)
 case hS1032 => exact cell_of (heap_old Q8 _) 6
 clear hK4 K4
 (try simp only [Act.put, List.setIfInBounds_toArray, List.set_cons_zero, List.set_cons_succ])
 refine held_step (i := 5) rfl (by kernel_rfl) (fun K5 hK5 => ?hr1033)
 refine step_append_fp (by rfl) _ _ 24 (by rfl) 27 i0 _ 8 128 Tryz.underlying24 HI.out HZ0.out HZ1.out HZ2.out rfl (by decide) (.slice (some ⟨g9, 0, none⟩) 1 cp9) 1 (flatN (fun i => if i = ([] : List ExprT).length then [.int .i64 k1, .int .i64 a1, .string ⟨nm1.toArray⟩, .int .i64 n1, .string ⟨s1.toArray⟩, .slice A51 n51 c51, .slice A61 n61 c61, .slice A71 n71 c71] else []) 1) (by rfl) ROW9.own ⟨x8.heap.size, 0, none⟩ 1 1 [.int .i64 k2, .int .i64 a2, .string ⟨nm2.toArray⟩, .int .i64 n2, .string ⟨s2.toArray⟩, .slice A52 n52 c52, .slice A62 n62 c62, .slice A72 n72 c72] (by rfl) rfl (World.news_of_block (heap_new x8 _)) (by simp [Value.oneCell']) (by decide) (by decide) ?_
 intro v9 w9 hown9 hgrow9 hfp9
 obtain ⟨g8, cp8, hv9⟩ : ∃ g cap, v9 = .slice (some ⟨g, 0, none⟩) (2) cap := own_form hown9
 subst hv9
 have Q9 := (hgrow9.block T (lt_of_heap (heap_old Q8 (.cells #[.int .i64 k2, .int .i64 a2, .string ⟨nm2.toArray⟩, .int .i64 n2, .string ⟨s2.toArray⟩, .slice A52 n52 c52, .slice A62 n62 c62, .slice A72 n72 c72] 27))) (fun e => (ROWH.out.blk T e.symm).2.1 rfl)).trans (heap_old Q8 (.cells #[.int .i64 k2, .int .i64 a2, .string ⟨nm2.toArray⟩, .int .i64 n2, .string ⟨s2.toArray⟩, .slice A52 n52 c52, .slice A62 n62 c62, .slice A72 n72 c72] 27))
 have hT9 := lt_of_heap Q9
 obtain ⟨⟨u0, u1, u2, u3, u4, u5, u6, u7⟩, z0, z1, z2, z3, z4, z5, z6, z7⟩ := cells8 Q9
 refine hK5.out _ _ ?hS1033 (fun hHeld => ?hq1033)
 case hS1033 => exact u6
 clear hK5 K5
 (try simp only [Act.put, List.setIfInBounds_toArray, List.set_cons_zero, List.set_cons_succ])
 refine held_take (i := 6) (v := ?v1034) rfl (by kernel_rfl) (by kernel_rfl) (by kernel_rfl) (fun _ _ _ h => h) (Or.inl ⟨by rfl, ?hy1034⟩) (by assumption) ?hr1034
 case hy1034 =>
  intro w' hSw
  (try dsimp only at hSw)
  go_simp
  (try with_reducible rfl)
 (try simp only [Act.put, List.setIfInBounds_toArray, List.set_cons_zero, List.set_cons_succ])
 refine wpAnyH_done (by kernel_rfl) ?hr1035 _
 refine thenLast_run rfl ?hq1035
 go_simp
 refine hK.out _ _ ?hs1035
 clear hK K
 clear l0 l1 l2 l3 l4 l5 l6 l7 u0 u1 u2 u3 u4 u5 u6 u7 z0 z1 z2 z3 z4 z5 z6 z7
 have f8 : Fr [P] y2 x8 := ((Fr.refl [P] y2).drew).trans f8
 have row := ROWH.out
 obtain ⟨F, g0, q0, h0, row, hsh, hnew, hsz⟩ := app_after (fld := 6) (size := 8) keepsE f8 hx2 rfl hst g0 q0 row F (by omega) (by omega) (by omega) (by omega) (by omega) (by omega) (by omega) hown9 hgrow9 hfp9 (VV' := #[.int .i64 10, .int .i64 t.at', .string ⟨(nameT v ⟨st.i + 1 + 1, st.ok⟩).toArray⟩, .int .i64 0, .string ⟨#[]⟩, .slice none 0 0, .slice (some ⟨g8, 0, none⟩) 2 cp8, .slice none 0 0]) rfl
 clear ROWH ROW9 Q8 Q9 hown9 hgrow9 hfp9 f8 hst hT8 hT9 hTwr
 generalize w9.setCell ⟨T, 6, none⟩ (.slice (some ⟨g8, 0, none⟩) 2 cp8) = y3 at *
 clear hsh hnew hsz cS
 have hBT2 := lt_of_heap g0
 have row0 := RowG.keep (ok' := fun b => B < b) keepsE row (Sh.of_fr (Fr.refl [] y3) (fun b hb hlt => ⟨hb.1, fun x => by cases x⟩))
 obtain ⟨⟨l0, l1, l2, l3, l4, l5, l6, l7⟩, _⟩ := cells8 q0
 obtain ⟨⟨u0, u1, u2, u3, u4, u5, u6, u7⟩, z0, z1, z2, z3, z4, z5, z6, z7⟩ := cells8 g0
 clear row
 have HG := Lib.hid (st8_heap g0 (.int .i64 10) (.int .i64 t.at') (.string ⟨(nameT v ⟨st.i + 1 + 1, st.ok⟩).toArray⟩) (.int .i64 0) (.string ⟨#[]⟩) (.slice none 0 0) (.slice (some ⟨g8, 0, none⟩) 2 cp8) (.slice none 0 0))
 have HF := Lib.hid ((F).step (st8_fr y3 B (.int .i64 10) (.int .i64 t.at') (.string ⟨(nameT v ⟨st.i + 1 + 1, st.ok⟩).toArray⟩) (.int .i64 0) (.string ⟨#[]⟩) (.slice none 0 0) (.slice (some ⟨g8, 0, none⟩) 2 cp8) (.slice none 0 0)) (fun x hx => .inr (by simp at hx; omega)))
 have HP := Lib.hid ((h0).frL (st8_fr y3 B (.int .i64 10) (.int .i64 t.at') (.string ⟨(nameT v ⟨st.i + 1 + 1, st.ok⟩).toArray⟩) (.int .i64 0) (.string ⟨#[]⟩) (.slice none 0 0) (.slice (some ⟨g8, 0, none⟩) 2 cp8) (.slice none 0 0)) (by simpa using nP) (by simpa using ng))
 have HR := Lib.hid (RowG.keep (ok' := fun b => B ≤ b) keepsE row0 (Sh.of_fr (st8_fr y3 B (.int .i64 10) (.int .i64 t.at') (.string ⟨(nameT v ⟨st.i + 1 + 1, st.ok⟩).toArray⟩) (.int .i64 0) (.string ⟨#[]⟩) (.slice none 0 0) (.slice (some ⟨g8, 0, none⟩) 2 cp8) (.slice none 0 0)) (fun b hb hlt => ⟨by omega, by simp; omega⟩)))
 unfold st8 at HG HF HP HR
 go_wp2_with fail
 generalize (((((((y3.setCell ⟨B, 0, none⟩ (.int .i64 10)).setCell ⟨B, 1, none⟩ (.int .i64 t.at')).setCell ⟨B, 2, none⟩ (.string ⟨(nameT v ⟨st.i + 1 + 1, st.ok⟩).toArray⟩)).setCell ⟨B, 3, none⟩ (.int .i64 0)).setCell ⟨B, 4, none⟩ (.string ⟨#[]⟩)).setCell ⟨B, 5, none⟩ (.slice none 0 0)).setCell ⟨B, 6, none⟩ (.slice (some ⟨g8, 0, none⟩) 2 cp8)).setCell ⟨B, 7, none⟩ (.slice none 0 0) = Z at HG HF HP HR ⊢
 obtain ⟨⟨d0, d1, d2, d3, d4, d5, d6, d7⟩, _⟩ := cells8 HG.out
 have hxx := ExprAt.of_rows (k := 10) (a := t.at') (nm := nameT v ⟨st.i + 1 + 1, st.ok⟩) (n := 0) (s := []) (c5 := fun _ => []) (c7 := fun _ => []) RowG.nil_ HR.out RowG.nil_
 refine bodyPost_ret (v := .agg #[.int .i64 10, .int .i64 t.at', .string ⟨(nameT v ⟨st.i + 1 + 1, st.ok⟩).toArray⟩, .int .i64 0, .string ⟨#[]⟩, .slice none 0 0, .slice (some ⟨g8, 0, none⟩) 2 cp8, .slice none 0 0]) ?_ rfl ?_
 ·simp [results, Tryz.f33, go_sem, d0, d1, d2, d3, d4, d5, d6, d7]
 ·exact ⟨_, _, _, _, _, _, _, _, _, _, _, _, _, _, _, _, _, _, rfl, by rw [hB]; exact hxx, .look HT.out (.may_yes HT.out HB0.out (.thn (.may_yes hu (HRC.out u hu) (.name_ hv (.must_ hp (.callE hr1 (.must_ hq (.callE hr2 .retE)))))))), HP.out, HF.out⟩
end Go.Proofs.YtpjkfeehgookkaaGreatDoor
namespace Go.Proofs.YtpjkfeehgookkaaGreatDoor
open Go.RowKit
attribute [local go_sem ↓] Go.wp_at_zero Go.wp_at_succ
set_option maxHeartbeats 8000000 in
set_option maxRecDepth 100000 in
theorem item_fun (ts : List Tok) (hE : EndOk ts) (N : Nat) (ih : AllE ts N) (P g c : Nat) (st : St) (w : World) (h : PSt P g c ts st w) (hm : 16 * (ts.length - st.i) + 12 < N + 1) (t : Tok) (ht : ts[st.i]? = some t) (hb0 : isB t st.ok [[108, 101, 116]] = false) (hb1 : isB t st.ok [[102, 117, 110]] = true) (ihF : GF ts N) : Calls Tryz.prog 33 #[.pointer (some ⟨P, 0, none⟩)] w (ExOk P g c ts st (body .item) w) := by
 have IHF := Lib.hid ihF
 clear ihF
 have HB0 := Lib.hid hb0
 clear hb0
 have HB1 := Lib.hid hb1
 clear hb1
 have H := Lib.hid h
 have hP := lt_of_heap h.blk
 have hgl := h.lt
 have hin := h.inb
 have HN := Lib.hid hm
 have HE := Lib.hid hE
 have IH := Lib.hid ih
 clear h hm hE ih
 go_enter Tryz.func33, Tryz.ntmps33
 go_wp2_with fail
 have f0 : Fr [] w (w.alloc (.cells #[.int .i64 0, .int .i64 0, .string ⟨#[]⟩, .int .i64 0, .string ⟨#[]⟩, .slice none 0 0, .slice none 0 0, .slice none 0 0] 27)) := (Fr.refl [] w).alloc _
 have g0 := heap_new w (.cells #[.int .i64 0, .int .i64 0, .string ⟨#[]⟩, .int .i64 0, .string ⟨#[]⟩, .slice none 0 0, .slice none 0 0, .slice none 0 0] 27)
 generalize w.alloc (.cells #[.int .i64 0, .int .i64 0, .string ⟨#[]⟩, .int .i64 0, .string ⟨#[]⟩, .slice none 0 0, .slice none 0 0, .slice none 0 0] 27) = w1 at *
 generalize hB : w.heap.size = B at *
 have hB1 := lt_of_heap g0
 have nP : ¬ P = B := by omega
 have nB : ¬ B = P := by omega
 have ng : ¬ g = B := by omega
 have HT := Lib.hid ht
 refine (now_any P g c ts st t ht w1 (H.out.fr f0) HE.out).mono ?_
 rintro e x3 ⟨rfl, f3⟩
 go_wp2_with fail
 have q3 := heap_new x3 (.cells #[.int .i64 t.k, .int .i64 t.at', .string ⟨t.text.toArray⟩, .int .i64 t.n] 46)
 have fb4 : Fr [] x3 (x3.alloc (.cells #[.int .i64 t.k, .int .i64 t.at', .string ⟨t.text.toArray⟩, .int .i64 t.n] 46)) := (Fr.refl [] x3).alloc _
 generalize x3.alloc (.cells #[.int .i64 t.k, .int .i64 t.at', .string ⟨t.text.toArray⟩, .int .i64 t.n] 46) = x4 at *
 have hT4 := lt_of_heap q3
 have hs3 := f3.size
 generalize x3.heap.size = T3 at *
 have f4 := (f0.trans f3).trans fb4
 have g0 := (f3.trans fb4).keep g0 (fun x => by cases x)
 have h4 := H.out.fr f4
 have hPB : P < B := by omega
 have hgB : g < B := by omega
 have hBw : w.heap.size ≤ B := by omega
 have hBT3 : B < T3 := by have := (f0.trans f3).size; have := lt_of_heap g0; omega
 clear f0 f3 fb4
 refine (may_no [108, 101, 116] P g c ts st t HT.out HB0.out x4 h4 HE.out).mono ?_
 rintro e x4 ⟨rfl, f5⟩
 go_wp2_with fail
 have g0 := f5.keep g0 (fun x => by cases x)
 have q3 := f5.keep q3 (fun x => by cases x)
 have h4 := h4.fr f5
 have f4 := f4.trans f5
 have hs4 := f5.size
 clear f5 hs4
 have fa := (Fr.refl [] x4).alloc (.cells #[.string ⟨[102, 117, 110].toArray⟩] 9)
 have ci := fun cl => Lib.hid (is_any P g c ts st t HT.out x4.heap.size cl [[102, 117, 110]] (by simp) (x4.alloc (.cells #[.string ⟨[102, 117, 110].toArray⟩] 9)) (h4.fr fa) (StrsR.one x4 [102, 117, 110] _) (by simp) HE.out)
 rw [HB1.out] at ci
 go_wp2_with fail
 refine (ci _).out.mono ?_
 rintro e x5 ⟨rfl, f5⟩
 go_wp2_with fail
 have f5 := fa.trans f5
 have g0 := f5.keep g0 (fun x => by cases x)
 have h0 := h4.fr f5
 have F := f4.trans f5
 have hs5 := lt_of_heap g0
 refine (IHF.out P g c st x5 t h0 HT.out HB1.out (by have := HN.out; omega)).mono ?_
 rintro e x6 ⟨k2, a2, nm2, n2, s2, ls2, args2, arms2, A52, n52, c52, A62, n62, c62, A72, n72, c72, st2, rfl, hx2, hr2, hst2, f6⟩
 have g0 := f6.keep g0 (by simpa using nB)
 have hx2 := hx2.keep (ok' := fun b => B < b) (Sh.of_fr (Fr.refl [] x6) (fun b hb hlt => ⟨by have : x5.heap.size ≤ b := hb; omega, fun x => by cases x⟩))
 have HG := Lib.hid (st8_heap g0 (.int .i64 k2) (.int .i64 a2) (.string ⟨nm2.toArray⟩) (.int .i64 n2) (.string ⟨s2.toArray⟩) (.slice A52 n52 c52) (.slice A62 n62 c62) (.slice A72 n72 c72))
 have HF := Lib.hid (((F.mono (fun x hx => by cases hx)).trans f6).step (st8_fr x6 B (.int .i64 k2) (.int .i64 a2) (.string ⟨nm2.toArray⟩) (.int .i64 n2) (.string ⟨s2.toArray⟩) (.slice A52 n52 c52) (.slice A62 n62 c62) (.slice A72 n72 c72)) (fun x hx => .inr (by simp at hx; omega)))
 have HP := Lib.hid ((hst2).frL (st8_fr x6 B (.int .i64 k2) (.int .i64 a2) (.string ⟨nm2.toArray⟩) (.int .i64 n2) (.string ⟨s2.toArray⟩) (.slice A52 n52 c52) (.slice A62 n62 c62) (.slice A72 n72 c72)) (by simpa using nP) (by simpa using ng))
 have HX : Hid (ExprAt (st8 x6 B (.int .i64 k2) (.int .i64 a2) (.string ⟨nm2.toArray⟩) (.int .i64 n2) (.string ⟨s2.toArray⟩) (.slice A52 n52 c52) (.slice A62 n62 c62) (.slice A72 n72 c72)) (fun b => B ≤ b) (.mk k2 a2 nm2 n2 s2 ls2 args2 arms2) [.int .i64 k2, .int .i64 a2, .string ⟨nm2.toArray⟩, .int .i64 n2, .string ⟨s2.toArray⟩, .slice A52 n52 c52, .slice A62 n62 c62, .slice A72 n72 c72]) := Lib.hid ((hx2).keep (Sh.of_fr (st8_fr x6 B (.int .i64 k2) (.int .i64 a2) (.string ⟨nm2.toArray⟩) (.int .i64 n2) (.string ⟨s2.toArray⟩) (.slice A52 n52 c52) (.slice A62 n62 c62) (.slice A72 n72 c72)) (fun b hb hlt => ⟨by omega, by simp; omega⟩)))
 unfold st8 at HG HF HP HX
 obtain ⟨⟨u0, u1, u2, u3, u4, u5, u6, u7⟩, z0, z1, z2, z3, z4, z5, z6, z7⟩ := cells8 g0
 go_wp2_with fail
 generalize (((((((x6.setCell ⟨B, 0, none⟩ (.int .i64 k2)).setCell ⟨B, 1, none⟩ (.int .i64 a2)).setCell ⟨B, 2, none⟩ (.string ⟨nm2.toArray⟩)).setCell ⟨B, 3, none⟩ (.int .i64 n2)).setCell ⟨B, 4, none⟩ (.string ⟨s2.toArray⟩)).setCell ⟨B, 5, none⟩ (.slice A52 n52 c52)).setCell ⟨B, 6, none⟩ (.slice A62 n62 c62)).setCell ⟨B, 7, none⟩ (.slice A72 n72 c72) = Z at HG HF HP HX ⊢
 obtain ⟨⟨d0, d1, d2, d3, d4, d5, d6, d7⟩, _⟩ := cells8 HG.out
 refine bodyPost_ret (v := .agg #[.int .i64 k2, .int .i64 a2, .string ⟨nm2.toArray⟩, .int .i64 n2, .string ⟨s2.toArray⟩, .slice A52 n52 c52, .slice A62 n62 c62, .slice A72 n72 c72]) ?_ rfl ?_
 ·simp [results, Tryz.f33, go_sem, d0, d1, d2, d3, d4, d5, d6, d7]
 ·exact ⟨_, _, _, _, _, _, _, _, _, _, _, _, _, _, _, _, _, _, rfl, by rw [hB]; exact HX.out, .look HT.out (.may_no HT.out HB0.out (.els (.isC_ HT.out HB1.out (.thn (.callE hr2 .retE))))), HP.out, HF.out⟩
def GA (ts : List Tok) (N : Nat) : Prop := ∀ (P g c : Nat) (st : St) (k a : Int) (w : World), PSt P g c ts st w → 16 * (ts.length - st.i) + 14 < N → Calls Tryz.prog 55 #[.pointer (some ⟨P, 0, none⟩), .agg #[.int .i64 k, .int .i64 a, .string ⟨#[]⟩, .int .i64 0, .string ⟨#[]⟩, .slice none 0 0, .slice none 0 0, .slice none 0 0]] w (ExOk P g c ts st (body (.arms k a)) w)
set_option maxHeartbeats 8000000 in
set_option maxRecDepth 100000 in
theorem item_match (ts : List Tok) (hE : EndOk ts) (N : Nat) (ih : AllE ts N) (P g c : Nat) (st : St) (w : World) (h : PSt P g c ts st w) (hm : 16 * (ts.length - st.i) + 12 < N + 1) (t : Tok) (ht : ts[st.i]? = some t) (hb0 : isB t st.ok [[108, 101, 116]] = false) (hb1 : isB t st.ok [[102, 117, 110]] = false) (hb2 : isB t st.ok [[109, 97, 116, 99, 104]] = true) (ihA : GA ts N) : Calls Tryz.prog 33 #[.pointer (some ⟨P, 0, none⟩)] w (ExOk P g c ts st (body .item) w) := by
 have IHA := Lib.hid ihA
 clear ihA
 have HB0 := Lib.hid hb0
 clear hb0
 have HB1 := Lib.hid hb1
 clear hb1
 have HB2 := Lib.hid hb2
 clear hb2
 have H := Lib.hid h
 have hP := lt_of_heap h.blk
 have hgl := h.lt
 have hin := h.inb
 have HN := Lib.hid hm
 have HE := Lib.hid hE
 have IH := Lib.hid ih
 clear h hm hE ih
 go_enter Tryz.func33, Tryz.ntmps33
 go_wp2_with fail
 have f0 : Fr [] w (w.alloc (.cells #[.int .i64 0, .int .i64 0, .string ⟨#[]⟩, .int .i64 0, .string ⟨#[]⟩, .slice none 0 0, .slice none 0 0, .slice none 0 0] 27)) := (Fr.refl [] w).alloc _
 have g0 := heap_new w (.cells #[.int .i64 0, .int .i64 0, .string ⟨#[]⟩, .int .i64 0, .string ⟨#[]⟩, .slice none 0 0, .slice none 0 0, .slice none 0 0] 27)
 generalize w.alloc (.cells #[.int .i64 0, .int .i64 0, .string ⟨#[]⟩, .int .i64 0, .string ⟨#[]⟩, .slice none 0 0, .slice none 0 0, .slice none 0 0] 27) = w1 at *
 generalize hB : w.heap.size = B at *
 have hB1 := lt_of_heap g0
 have nP : ¬ P = B := by omega
 have nB : ¬ B = P := by omega
 have ng : ¬ g = B := by omega
 have HT := Lib.hid ht
 refine (now_any P g c ts st t ht w1 (H.out.fr f0) HE.out).mono ?_
 rintro e x3 ⟨rfl, f3⟩
 go_wp2_with fail
 have q3 := heap_new x3 (.cells #[.int .i64 t.k, .int .i64 t.at', .string ⟨t.text.toArray⟩, .int .i64 t.n] 46)
 have fb4 : Fr [] x3 (x3.alloc (.cells #[.int .i64 t.k, .int .i64 t.at', .string ⟨t.text.toArray⟩, .int .i64 t.n] 46)) := (Fr.refl [] x3).alloc _
 generalize x3.alloc (.cells #[.int .i64 t.k, .int .i64 t.at', .string ⟨t.text.toArray⟩, .int .i64 t.n] 46) = x4 at *
 have hT4 := lt_of_heap q3
 have hs3 := f3.size
 generalize x3.heap.size = T3 at *
 have f4 := (f0.trans f3).trans fb4
 have g0 := (f3.trans fb4).keep g0 (fun x => by cases x)
 have h4 := H.out.fr f4
 have hPB : P < B := by omega
 have hgB : g < B := by omega
 have hBw : w.heap.size ≤ B := by omega
 have hBT3 : B < T3 := by have := (f0.trans f3).size; have := lt_of_heap g0; omega
 clear f0 f3 fb4
 refine (may_no [108, 101, 116] P g c ts st t HT.out HB0.out x4 h4 HE.out).mono ?_
 rintro e x4 ⟨rfl, f5⟩
 go_wp2_with fail
 have g0 := f5.keep g0 (fun x => by cases x)
 have q3 := f5.keep q3 (fun x => by cases x)
 have h4 := h4.fr f5
 have f4 := f4.trans f5
 have hs4 := f5.size
 clear f5 hs4
 have fa := (Fr.refl [] x4).alloc (.cells #[.string ⟨[102, 117, 110].toArray⟩] 9)
 have ci := fun cl => Lib.hid (is_any P g c ts st t HT.out x4.heap.size cl [[102, 117, 110]] (by simp) (x4.alloc (.cells #[.string ⟨[102, 117, 110].toArray⟩] 9)) (h4.fr fa) (StrsR.one x4 [102, 117, 110] _) (by simp) HE.out)
 rw [HB1.out] at ci
 go_wp2_with fail
 refine (ci _).out.mono ?_
 rintro e x4 ⟨rfl, f5⟩
 go_wp2_with fail
 have f5 := fa.trans f5
 have g0 := f5.keep g0 (fun x => by cases x)
 have q3 := f5.keep q3 (fun x => by cases x)
 have h4 := h4.fr f5
 have f4 := f4.trans f5
 clear f5 fa ci
 refine (may_yes [109, 97, 116, 99, 104] P g c ts st t HT.out HB2.out x4 h4 HE.out).mono ?_
 rintro e x5 ⟨rfl, h0, f5⟩
 have g0 := f5.keep g0 (by simpa using nB)
 have q3 := f5.keep q3 (by simp; omega)
 have F : Fr [P] w x5 := (f4.mono (fun x hx => by cases hx)).trans f5
 have hs5 := lt_of_heap g0
 clear f4 f5 h4 hT4 hs3
 obtain ⟨m0, m1, m2, m3, _⟩ := cells4 q3
 go_wp2_with fail
 refine (IHA.out P g c ⟨st.i + 1, st.ok⟩ 16 t.at' x5 h0 (by have := HN.out; have := h0.inb; simp only at this ⊢; omega)).mono ?_
 rintro e x6 ⟨k2, a2, nm2, n2, s2, ls2, args2, arms2, A52, n52, c52, A62, n62, c62, A72, n72, c72, st2, rfl, hx2, hr2, hst2, f6⟩
 clear m0 m1 m2 m3 q3
 have g0 := f6.keep g0 (by simpa using nB)
 have hx2 := hx2.keep (ok' := fun b => B < b) (Sh.of_fr (Fr.refl [] x6) (fun b hb hlt => ⟨by have : x5.heap.size ≤ b := hb; omega, fun x => by cases x⟩))
 have HG := Lib.hid (st8_heap g0 (.int .i64 k2) (.int .i64 a2) (.string ⟨nm2.toArray⟩) (.int .i64 n2) (.string ⟨s2.toArray⟩) (.slice A52 n52 c52) (.slice A62 n62 c62) (.slice A72 n72 c72))
 have HF := Lib.hid ((F.trans f6).step (st8_fr x6 B (.int .i64 k2) (.int .i64 a2) (.string ⟨nm2.toArray⟩) (.int .i64 n2) (.string ⟨s2.toArray⟩) (.slice A52 n52 c52) (.slice A62 n62 c62) (.slice A72 n72 c72)) (fun x hx => .inr (by simp at hx; omega)))
 have HP := Lib.hid ((hst2).frL (st8_fr x6 B (.int .i64 k2) (.int .i64 a2) (.string ⟨nm2.toArray⟩) (.int .i64 n2) (.string ⟨s2.toArray⟩) (.slice A52 n52 c52) (.slice A62 n62 c62) (.slice A72 n72 c72)) (by simpa using nP) (by simpa using ng))
 have HX : Hid (ExprAt (st8 x6 B (.int .i64 k2) (.int .i64 a2) (.string ⟨nm2.toArray⟩) (.int .i64 n2) (.string ⟨s2.toArray⟩) (.slice A52 n52 c52) (.slice A62 n62 c62) (.slice A72 n72 c72)) (fun b => B ≤ b) (.mk k2 a2 nm2 n2 s2 ls2 args2 arms2) [.int .i64 k2, .int .i64 a2, .string ⟨nm2.toArray⟩, .int .i64 n2, .string ⟨s2.toArray⟩, .slice A52 n52 c52, .slice A62 n62 c62, .slice A72 n72 c72]) := Lib.hid ((hx2).keep (Sh.of_fr (st8_fr x6 B (.int .i64 k2) (.int .i64 a2) (.string ⟨nm2.toArray⟩) (.int .i64 n2) (.string ⟨s2.toArray⟩) (.slice A52 n52 c52) (.slice A62 n62 c62) (.slice A72 n72 c72)) (fun b hb hlt => ⟨by omega, by simp; omega⟩)))
 unfold st8 at HG HF HP HX
 obtain ⟨⟨u0, u1, u2, u3, u4, u5, u6, u7⟩, z0, z1, z2, z3, z4, z5, z6, z7⟩ := cells8 g0
 go_wp2_with fail
 generalize (((((((x6.setCell ⟨B, 0, none⟩ (.int .i64 k2)).setCell ⟨B, 1, none⟩ (.int .i64 a2)).setCell ⟨B, 2, none⟩ (.string ⟨nm2.toArray⟩)).setCell ⟨B, 3, none⟩ (.int .i64 n2)).setCell ⟨B, 4, none⟩ (.string ⟨s2.toArray⟩)).setCell ⟨B, 5, none⟩ (.slice A52 n52 c52)).setCell ⟨B, 6, none⟩ (.slice A62 n62 c62)).setCell ⟨B, 7, none⟩ (.slice A72 n72 c72) = Z at HG HF HP HX ⊢
 obtain ⟨⟨d0, d1, d2, d3, d4, d5, d6, d7⟩, _⟩ := cells8 HG.out
 refine bodyPost_ret (v := .agg #[.int .i64 k2, .int .i64 a2, .string ⟨nm2.toArray⟩, .int .i64 n2, .string ⟨s2.toArray⟩, .slice A52 n52 c52, .slice A62 n62 c62, .slice A72 n72 c72]) ?_ rfl ?_
 ·simp [results, Tryz.f33, go_sem, d0, d1, d2, d3, d4, d5, d6, d7]
 ·exact ⟨_, _, _, _, _, _, _, _, _, _, _, _, _, _, _, _, _, _, rfl, by rw [hB]; exact HX.out, .look HT.out (.may_no HT.out HB0.out (.els (.isC_ HT.out HB1.out (.els (.may_yes HT.out HB2.out (.thn (.callE hr2 .retE))))))), HP.out, HF.out⟩
set_option maxHeartbeats 8000000 in
set_option maxRecDepth 100000 in
theorem item_try (ts : List Tok) (hE : EndOk ts) (N : Nat) (ih : AllE ts N) (P g c : Nat) (st : St) (w : World) (h : PSt P g c ts st w) (hm : 16 * (ts.length - st.i) + 12 < N + 1) (t : Tok) (ht : ts[st.i]? = some t) (hb0 : isB t st.ok [[108, 101, 116]] = false) (hb1 : isB t st.ok [[102, 117, 110]] = false) (hb2 : isB t st.ok [[109, 97, 116, 99, 104]] = false) (hb3 : isB t st.ok [[116, 114, 121]] = true) (ihA : GA ts N) : Calls Tryz.prog 33 #[.pointer (some ⟨P, 0, none⟩)] w (ExOk P g c ts st (body .item) w) := by
 have IHA := Lib.hid ihA
 clear ihA
 have HB0 := Lib.hid hb0
 clear hb0
 have HB1 := Lib.hid hb1
 clear hb1
 have HB2 := Lib.hid hb2
 clear hb2
 have HB3 := Lib.hid hb3
 clear hb3
 have H := Lib.hid h
 have hP := lt_of_heap h.blk
 have hgl := h.lt
 have hin := h.inb
 have HN := Lib.hid hm
 have HE := Lib.hid hE
 have IH := Lib.hid ih
 clear h hm hE ih
 go_enter Tryz.func33, Tryz.ntmps33
 go_wp2_with fail
 have f0 : Fr [] w (w.alloc (.cells #[.int .i64 0, .int .i64 0, .string ⟨#[]⟩, .int .i64 0, .string ⟨#[]⟩, .slice none 0 0, .slice none 0 0, .slice none 0 0] 27)) := (Fr.refl [] w).alloc _
 have g0 := heap_new w (.cells #[.int .i64 0, .int .i64 0, .string ⟨#[]⟩, .int .i64 0, .string ⟨#[]⟩, .slice none 0 0, .slice none 0 0, .slice none 0 0] 27)
 generalize w.alloc (.cells #[.int .i64 0, .int .i64 0, .string ⟨#[]⟩, .int .i64 0, .string ⟨#[]⟩, .slice none 0 0, .slice none 0 0, .slice none 0 0] 27) = w1 at *
 generalize hB : w.heap.size = B at *
 have hB1 := lt_of_heap g0
 have nP : ¬ P = B := by omega
 have nB : ¬ B = P := by omega
 have ng : ¬ g = B := by omega
 have HT := Lib.hid ht
 refine (now_any P g c ts st t ht w1 (H.out.fr f0) HE.out).mono ?_
 rintro e x3 ⟨rfl, f3⟩
 go_wp2_with fail
 have q3 := heap_new x3 (.cells #[.int .i64 t.k, .int .i64 t.at', .string ⟨t.text.toArray⟩, .int .i64 t.n] 46)
 have fb4 : Fr [] x3 (x3.alloc (.cells #[.int .i64 t.k, .int .i64 t.at', .string ⟨t.text.toArray⟩, .int .i64 t.n] 46)) := (Fr.refl [] x3).alloc _
 generalize x3.alloc (.cells #[.int .i64 t.k, .int .i64 t.at', .string ⟨t.text.toArray⟩, .int .i64 t.n] 46) = x4 at *
 have hT4 := lt_of_heap q3
 have hs3 := f3.size
 generalize x3.heap.size = T3 at *
 have f4 := (f0.trans f3).trans fb4
 have g0 := (f3.trans fb4).keep g0 (fun x => by cases x)
 have h4 := H.out.fr f4
 have hPB : P < B := by omega
 have hgB : g < B := by omega
 have hBw : w.heap.size ≤ B := by omega
 have hBT3 : B < T3 := by have := (f0.trans f3).size; have := lt_of_heap g0; omega
 clear f0 f3 fb4
 refine (may_no [108, 101, 116] P g c ts st t HT.out HB0.out x4 h4 HE.out).mono ?_
 rintro e x4 ⟨rfl, f5⟩
 go_wp2_with fail
 have g0 := f5.keep g0 (fun x => by cases x)
 have q3 := f5.keep q3 (fun x => by cases x)
 have h4 := h4.fr f5
 have f4 := f4.trans f5
 have hs4 := f5.size
 clear f5 hs4
 have fa := (Fr.refl [] x4).alloc (.cells #[.string ⟨[102, 117, 110].toArray⟩] 9)
 have ci := fun cl => Lib.hid (is_any P g c ts st t HT.out x4.heap.size cl [[102, 117, 110]] (by simp) (x4.alloc (.cells #[.string ⟨[102, 117, 110].toArray⟩] 9)) (h4.fr fa) (StrsR.one x4 [102, 117, 110] _) (by simp) HE.out)
 rw [HB1.out] at ci
 go_wp2_with fail
 refine (ci _).out.mono ?_
 rintro e x4 ⟨rfl, f5⟩
 go_wp2_with fail
 have f5 := fa.trans f5
 have g0 := f5.keep g0 (fun x => by cases x)
 have q3 := f5.keep q3 (fun x => by cases x)
 have h4 := h4.fr f5
 have f4 := f4.trans f5
 clear f5 fa ci
 refine (may_no [109, 97, 116, 99, 104] P g c ts st t HT.out HB2.out x4 h4 HE.out).mono ?_
 rintro e x4 ⟨rfl, f5⟩
 go_wp2_with fail
 have g0 := f5.keep g0 (fun x => by cases x)
 have q3 := f5.keep q3 (fun x => by cases x)
 have h4 := h4.fr f5
 have f4 := f4.trans f5
 have hs4 := f5.size
 clear f5 hs4
 refine (may_yes [116, 114, 121] P g c ts st t HT.out HB3.out x4 h4 HE.out).mono ?_
 rintro e x5 ⟨rfl, h0, f5⟩
 have g0 := f5.keep g0 (by simpa using nB)
 have q3 := f5.keep q3 (by simp; omega)
 have F : Fr [P] w x5 := (f4.mono (fun x hx => by cases hx)).trans f5
 have hs5 := lt_of_heap g0
 clear f4 f5 h4 hT4 hs3
 obtain ⟨m0, m1, m2, m3, _⟩ := cells4 q3
 go_wp2_with fail
 refine (IHA.out P g c ⟨st.i + 1, st.ok⟩ 17 t.at' x5 h0 (by have := HN.out; have := h0.inb; simp only at this ⊢; omega)).mono ?_
 rintro e x6 ⟨k2, a2, nm2, n2, s2, ls2, args2, arms2, A52, n52, c52, A62, n62, c62, A72, n72, c72, st2, rfl, hx2, hr2, hst2, f6⟩
 clear m0 m1 m2 m3 q3
 have g0 := f6.keep g0 (by simpa using nB)
 have hx2 := hx2.keep (ok' := fun b => B < b) (Sh.of_fr (Fr.refl [] x6) (fun b hb hlt => ⟨by have : x5.heap.size ≤ b := hb; omega, fun x => by cases x⟩))
 have HG := Lib.hid (st8_heap g0 (.int .i64 k2) (.int .i64 a2) (.string ⟨nm2.toArray⟩) (.int .i64 n2) (.string ⟨s2.toArray⟩) (.slice A52 n52 c52) (.slice A62 n62 c62) (.slice A72 n72 c72))
 have HF := Lib.hid ((F.trans f6).step (st8_fr x6 B (.int .i64 k2) (.int .i64 a2) (.string ⟨nm2.toArray⟩) (.int .i64 n2) (.string ⟨s2.toArray⟩) (.slice A52 n52 c52) (.slice A62 n62 c62) (.slice A72 n72 c72)) (fun x hx => .inr (by simp at hx; omega)))
 have HP := Lib.hid ((hst2).frL (st8_fr x6 B (.int .i64 k2) (.int .i64 a2) (.string ⟨nm2.toArray⟩) (.int .i64 n2) (.string ⟨s2.toArray⟩) (.slice A52 n52 c52) (.slice A62 n62 c62) (.slice A72 n72 c72)) (by simpa using nP) (by simpa using ng))
 have HX : Hid (ExprAt (st8 x6 B (.int .i64 k2) (.int .i64 a2) (.string ⟨nm2.toArray⟩) (.int .i64 n2) (.string ⟨s2.toArray⟩) (.slice A52 n52 c52) (.slice A62 n62 c62) (.slice A72 n72 c72)) (fun b => B ≤ b) (.mk k2 a2 nm2 n2 s2 ls2 args2 arms2) [.int .i64 k2, .int .i64 a2, .string ⟨nm2.toArray⟩, .int .i64 n2, .string ⟨s2.toArray⟩, .slice A52 n52 c52, .slice A62 n62 c62, .slice A72 n72 c72]) := Lib.hid ((hx2).keep (Sh.of_fr (st8_fr x6 B (.int .i64 k2) (.int .i64 a2) (.string ⟨nm2.toArray⟩) (.int .i64 n2) (.string ⟨s2.toArray⟩) (.slice A52 n52 c52) (.slice A62 n62 c62) (.slice A72 n72 c72)) (fun b hb hlt => ⟨by omega, by simp; omega⟩)))
 unfold st8 at HG HF HP HX
 obtain ⟨⟨u0, u1, u2, u3, u4, u5, u6, u7⟩, z0, z1, z2, z3, z4, z5, z6, z7⟩ := cells8 g0
 go_wp2_with fail
 generalize (((((((x6.setCell ⟨B, 0, none⟩ (.int .i64 k2)).setCell ⟨B, 1, none⟩ (.int .i64 a2)).setCell ⟨B, 2, none⟩ (.string ⟨nm2.toArray⟩)).setCell ⟨B, 3, none⟩ (.int .i64 n2)).setCell ⟨B, 4, none⟩ (.string ⟨s2.toArray⟩)).setCell ⟨B, 5, none⟩ (.slice A52 n52 c52)).setCell ⟨B, 6, none⟩ (.slice A62 n62 c62)).setCell ⟨B, 7, none⟩ (.slice A72 n72 c72) = Z at HG HF HP HX ⊢
 obtain ⟨⟨d0, d1, d2, d3, d4, d5, d6, d7⟩, _⟩ := cells8 HG.out
 refine bodyPost_ret (v := .agg #[.int .i64 k2, .int .i64 a2, .string ⟨nm2.toArray⟩, .int .i64 n2, .string ⟨s2.toArray⟩, .slice A52 n52 c52, .slice A62 n62 c62, .slice A72 n72 c72]) ?_ rfl ?_
 ·simp [results, Tryz.f33, go_sem, d0, d1, d2, d3, d4, d5, d6, d7]
 ·exact ⟨_, _, _, _, _, _, _, _, _, _, _, _, _, _, _, _, _, _, rfl, by rw [hB]; exact HX.out, .look HT.out (.may_no HT.out HB0.out (.els (.isC_ HT.out HB1.out (.els (.may_no HT.out HB2.out (.els (.may_yes HT.out HB3.out (.thn (.callE hr2 .retE))))))))), HP.out, HF.out⟩
end Go.Proofs.YtpjkfeehgookkaaGreatDoor
namespace Go.Proofs.YtpjkfeehgookkaaGreatDoor
open Go.RowKit
attribute [local go_sem ↓] Go.wp_at_zero Go.wp_at_succ
set_option maxHeartbeats 8000000 in
set_option maxRecDepth 100000 in
theorem item_if (ts : List Tok) (hE : EndOk ts) (N : Nat) (ih : AllE ts N) (P g c : Nat) (st : St) (w : World) (h : PSt P g c ts st w) (hm : 16 * (ts.length - st.i) + 12 < N + 1) (t : Tok) (ht : ts[st.i]? = some t) (hb0 : isB t st.ok [[108, 101, 116]] = false) (hb1 : isB t st.ok [[102, 117, 110]] = false) (hb2 : isB t st.ok [[109, 97, 116, 99, 104]] = false) (hb3 : isB t st.ok [[116, 114, 121]] = false) (hb4 : isB t st.ok [[105, 102]] = true) : Calls Tryz.prog 33 #[.pointer (some ⟨P, 0, none⟩)] w (ExOk P g c ts st (body .item) w) := by
 have HB0 := Lib.hid hb0
 clear hb0
 have HB1 := Lib.hid hb1
 clear hb1
 have HB2 := Lib.hid hb2
 clear hb2
 have HB3 := Lib.hid hb3
 clear hb3
 have HB4 := Lib.hid hb4
 clear hb4
 have H := Lib.hid h
 have hP := lt_of_heap h.blk
 have hgl := h.lt
 have hin := h.inb
 have HN := Lib.hid hm
 have HE := Lib.hid hE
 have IH := Lib.hid ih
 clear h hm hE ih
 go_enter Tryz.func33, Tryz.ntmps33
 go_wp2_with fail
 have f0 : Fr [] w (w.alloc (.cells #[.int .i64 0, .int .i64 0, .string ⟨#[]⟩, .int .i64 0, .string ⟨#[]⟩, .slice none 0 0, .slice none 0 0, .slice none 0 0] 27)) := (Fr.refl [] w).alloc _
 have g0 := heap_new w (.cells #[.int .i64 0, .int .i64 0, .string ⟨#[]⟩, .int .i64 0, .string ⟨#[]⟩, .slice none 0 0, .slice none 0 0, .slice none 0 0] 27)
 generalize w.alloc (.cells #[.int .i64 0, .int .i64 0, .string ⟨#[]⟩, .int .i64 0, .string ⟨#[]⟩, .slice none 0 0, .slice none 0 0, .slice none 0 0] 27) = w1 at *
 generalize hB : w.heap.size = B at *
 have hB1 := lt_of_heap g0
 have nP : ¬ P = B := by omega
 have nB : ¬ B = P := by omega
 have ng : ¬ g = B := by omega
 have HT := Lib.hid ht
 refine (now_any P g c ts st t ht w1 (H.out.fr f0) HE.out).mono ?_
 rintro e x3 ⟨rfl, f3⟩
 go_wp2_with fail
 have q3 := heap_new x3 (.cells #[.int .i64 t.k, .int .i64 t.at', .string ⟨t.text.toArray⟩, .int .i64 t.n] 46)
 have fb4 : Fr [] x3 (x3.alloc (.cells #[.int .i64 t.k, .int .i64 t.at', .string ⟨t.text.toArray⟩, .int .i64 t.n] 46)) := (Fr.refl [] x3).alloc _
 generalize x3.alloc (.cells #[.int .i64 t.k, .int .i64 t.at', .string ⟨t.text.toArray⟩, .int .i64 t.n] 46) = x4 at *
 have hT4 := lt_of_heap q3
 have hs3 := f3.size
 generalize x3.heap.size = T3 at *
 have f4 := (f0.trans f3).trans fb4
 have g0 := (f3.trans fb4).keep g0 (fun x => by cases x)
 have h4 := H.out.fr f4
 have hPB : P < B := by omega
 have hgB : g < B := by omega
 have hBw : w.heap.size ≤ B := by omega
 have hBT3 : B < T3 := by have := (f0.trans f3).size; have := lt_of_heap g0; omega
 clear f0 f3 fb4
 refine (may_no [108, 101, 116] P g c ts st t HT.out HB0.out x4 h4 HE.out).mono ?_
 rintro e x4 ⟨rfl, f5⟩
 go_wp2_with fail
 have g0 := f5.keep g0 (fun x => by cases x)
 have q3 := f5.keep q3 (fun x => by cases x)
 have h4 := h4.fr f5
 have f4 := f4.trans f5
 have hs4 := f5.size
 clear f5 hs4
 have fa := (Fr.refl [] x4).alloc (.cells #[.string ⟨[102, 117, 110].toArray⟩] 9)
 have ci := fun cl => Lib.hid (is_any P g c ts st t HT.out x4.heap.size cl [[102, 117, 110]] (by simp) (x4.alloc (.cells #[.string ⟨[102, 117, 110].toArray⟩] 9)) (h4.fr fa) (StrsR.one x4 [102, 117, 110] _) (by simp) HE.out)
 rw [HB1.out] at ci
 go_wp2_with fail
 refine (ci _).out.mono ?_
 rintro e x4 ⟨rfl, f5⟩
 go_wp2_with fail
 have f5 := fa.trans f5
 have g0 := f5.keep g0 (fun x => by cases x)
 have q3 := f5.keep q3 (fun x => by cases x)
 have h4 := h4.fr f5
 have f4 := f4.trans f5
 clear f5 fa ci
 refine (may_no [109, 97, 116, 99, 104] P g c ts st t HT.out HB2.out x4 h4 HE.out).mono ?_
 rintro e x4 ⟨rfl, f5⟩
 go_wp2_with fail
 have g0 := f5.keep g0 (fun x => by cases x)
 have q3 := f5.keep q3 (fun x => by cases x)
 have h4 := h4.fr f5
 have f4 := f4.trans f5
 have hs4 := f5.size
 clear f5 hs4
 refine (may_no [116, 114, 121] P g c ts st t HT.out HB3.out x4 h4 HE.out).mono ?_
 rintro e x4 ⟨rfl, f5⟩
 go_wp2_with fail
 have g0 := f5.keep g0 (fun x => by cases x)
 have q3 := f5.keep q3 (fun x => by cases x)
 have h4 := h4.fr f5
 have f4 := f4.trans f5
 have hs4 := f5.size
 clear f5 hs4
 refine (may_yes [105, 102] P g c ts st t HT.out HB4.out x4 h4 HE.out).mono ?_
 rintro e x5 ⟨rfl, h0, f5⟩
 have g0 := f5.keep g0 (by simpa using nB)
 have q3 := f5.keep q3 (by simp; omega)
 have F : Fr [P] w x5 := (f4.mono (fun x hx => by cases hx)).trans f5
 have hs5 := lt_of_heap g0
 clear f4 f5 h4 hT4 hs3
 obtain ⟨m0, m1, m2, m3, _⟩ := cells4 q3
 have cS := fun W hW => Lib.hid (IH.out.seq P g c ⟨st.i + 1, st.ok⟩ W hW (by have := HN.out; have := h0.inb; simp only at this ⊢; omega))
 have hT35 := lt_of_heap q3
 go_wp2_with fail
 refine wp_region_last8 (fun w' => w'.cell? ⟨T3, 1, none⟩ = some (.int .i64 t.at')) (by kernel_rfl) (by kernel_rfl) ?hS1036 (fun K hK hHeld => ?hr1036)
 case hS1036 => go_keep
 refine held_take (i := 0) (v := ?v1037) rfl (by kernel_rfl) (by kernel_rfl) (by kernel_rfl) (fun _ _ _ h => h) (Or.inl ⟨by rfl, ?hy1037⟩) (by assumption) ?hr1037
 case hy1037 =>
  intro w' hSw
  (try dsimp only at hSw)
  go_simp
  (try with_reducible rfl)
 (try simp only [Act.put, List.setIfInBounds_toArray, List.set_cons_zero, List.set_cons_succ])
 refine held_take (i := 1) (v := ?v1038) rfl (by kernel_rfl) (by kernel_rfl) (by kernel_rfl) (fun _ _ _ h => h) (Or.inl ⟨by rfl, ?hy1038⟩) (by assumption) ?hr1038
 case hy1038 =>
  intro w' hSw
  (try dsimp only at hSw)
  go_simp
  (try with_reducible rfl)
 (try simp only [Act.put, List.setIfInBounds_toArray, List.set_cons_zero, List.set_cons_succ])
 refine held_take (i := 2) (v := ?v1039) rfl (by kernel_rfl) (by kernel_rfl) (by kernel_rfl) (fun _ _ _ h => h) (Or.inl ⟨by rfl, ?hy1039⟩) (by assumption) ?hr1039
 case hy1039 =>
  intro w' hSw
  (try dsimp only at hSw)
  go_simp
  (try with_reducible rfl)
 (try simp only [Act.put, List.setIfInBounds_toArray, List.set_cons_zero, List.set_cons_succ])
 refine wpAnyH_ready (rs := [3, 6]) (by kernel_rfl) (by simp) (held_cons (i := 3) rfl (fun K3 hK3 => ?hA) (held_cons (i := 6) rfl (fun K6 hK6 => ?hB) AllReadyH.nil))
 case hA =>
  go_simp
  refine (cS _ (h0.fr (Fr.refl [] x5).drew)).out.mono ?_
  rintro e x6 ⟨k1, a1, nm1, n1, s1, ls1, args1, arms1, A51, n51, c51, A61, n61, c61, A71, n71, c71, st2, rfl, hx1, hr1, hst2, f6⟩
  have Q6 := f6.keep (w := x5.drew) q3 (by simp; omega)
  have hT6 := lt_of_heap Q6
  have M6 := cells4 Q6
  go_simp
  refine hK3.out _ _ ?hS1048 (fun hHeld => ?hq1048)
  case hS1048 => exact M6.2.1
  clear hK3 K3
  (try simp only [Act.put, List.setIfInBounds_toArray, List.set_cons_zero, List.set_cons_succ])
  refine wpAnyH_ready (rs := [4, 6]) (by kernel_rfl) (by simp) (held_cons (i := 4) rfl (fun K4 hK4 => ?hC) (held_cons (i := 6) rfl (fun K6 hK6 => ?hD) AllReadyH.nil))
  case hC =>
   go_simp
   refine hK4.out _ _ ?hS1040 (fun hHeld => ?hq1040)
   case hS1040 => exact (cells4 (heap_old Q6 _)).2.1
   clear hK4 K4
   (try simp only [Act.put, List.setIfInBounds_toArray, List.set_cons_zero, List.set_cons_succ])
   refine held_take (i := 5) (v := ?v1041) rfl (by kernel_rfl) (by kernel_rfl) (by kernel_rfl) (fun _ _ _ h => h) (Or.inl ⟨by rfl, ?hy1041⟩) (by assumption) ?hr1041
   case hy1041 =>
    intro w' hSw
    (try dsimp only at hSw)
    go_simp
    (try with_reducible rfl)
   (try simp only [Act.put, List.setIfInBounds_toArray, List.set_cons_zero, List.set_cons_succ])
   refine held_step (i := 6) rfl (by kernel_rfl) (fun K6 hK6 => ?hr1042)
   go_simp
   refine hK6.out _ _ ?hS1042 (fun hHeld => ?hq1042)
   case hS1042 => exact (cells4 (heap_old (heap_old Q6 _) _)).2.1
   clear hK6 K6
   (try simp only [Act.put, List.setIfInBounds_toArray, List.set_cons_zero, List.set_cons_succ])
   refine wpAnyH_done (by kernel_rfl) ?hr1043 _
   refine thenLast_run rfl ?hq1043
   go_simp
   refine hK.out _ _ ?hs1043
   clear hK K
   have f6 : Fr [P] x5 x6 := ((Fr.refl [P] x5).drew).trans f6
   have hs6 := f6.size
   have hx1 := hx1.keep (ok' := fun b => B < b ∧ ¬ b = x6.heap.size + 1 ∧ ¬ b = P) (Sh.of_fr (Fr.refl [] x6) (fun b hb hlt => ⟨by have : x5.heap.size ≤ b := hb; exact ⟨by omega, by omega, by omega⟩, fun x => by cases x⟩))
   have hsz : (x6.alloc (.cells #[.int .i64 k1, .int .i64 a1, .string ⟨nm1.toArray⟩, .int .i64 n1, .string ⟨s1.toArray⟩, .slice A51 n51 c51, .slice A61 n61 c61, .slice A71 n71 c71] 27)).heap.size = x6.heap.size + 1 := by simp
   have row := RowG.lit keepsE (T := 27) (size := 8) (ok := fun b => B < b ∧ ¬ b = x6.heap.size + 1 ∧ ¬ b = P) hx1 rfl (by exact ⟨by omega, by omega, by omega⟩)
   have row := RowG.keep (ok' := fun b => B < b ∧ ¬ b = x6.heap.size + 1 ∧ ¬ b = P) keepsE row (Sh.of_fr ((Fr.refl [] (x6.alloc (.cells #[.int .i64 k1, .int .i64 a1, .string ⟨nm1.toArray⟩, .int .i64 n1, .string ⟨s1.toArray⟩, .slice A51 n51 c51, .slice A61 n61 c61, .slice A71 n71 c71] 27))).alloc (.cells #[.int .i64 11, .int .i64 t.at', .string ⟨#[]⟩, .int .i64 0, .string ⟨#[]⟩, .slice none 0 0, .slice (some ⟨x6.heap.size, 0, none⟩) 1 1, .slice none 0 0] 27)) (fun b hb hlt => ⟨hb, fun x => by cases x⟩))
   have q0 := heap_new (x6.alloc (.cells #[.int .i64 k1, .int .i64 a1, .string ⟨nm1.toArray⟩, .int .i64 n1, .string ⟨s1.toArray⟩, .slice A51 n51 c51, .slice A61 n61 c61, .slice A71 n71 c71] 27)) (.cells #[.int .i64 11, .int .i64 t.at', .string ⟨#[]⟩, .int .i64 0, .string ⟨#[]⟩, .slice none 0 0, .slice (some ⟨x6.heap.size, 0, none⟩) 1 1, .slice none 0 0] 27)
   rw [hsz] at q0
   have fbb : Fr [] x6 ((x6.alloc (.cells #[.int .i64 k1, .int .i64 a1, .string ⟨nm1.toArray⟩, .int .i64 n1, .string ⟨s1.toArray⟩, .slice A51 n51 c51, .slice A61 n61 c61, .slice A71 n71 c71] 27)).alloc (.cells #[.int .i64 11, .int .i64 t.at', .string ⟨#[]⟩, .int .i64 0, .string ⟨#[]⟩, .slice none 0 0, .slice (some ⟨x6.heap.size, 0, none⟩) 1 1, .slice none 0 0] 27)) := ((Fr.refl [] x6).alloc _).alloc _
   have g0 := fbb.keep (f6.keep g0 (by simp; omega)) (fun x => by cases x)
   have h0 := hst2.fr fbb
   have F := (F.trans f6).trans0 fbb
   have hBT : B < x6.heap.size + 1 := by omega
   clear hsz fbb f6 hx1 hst2 Q6 M6 q3 hT6 hs6 m0 m1 m2 m3 cS
   generalize (x6.alloc (.cells #[.int .i64 k1, .int .i64 a1, .string ⟨nm1.toArray⟩, .int .i64 n1, .string ⟨s1.toArray⟩, .slice A51 n51 c51, .slice A61 n61 c61, .slice A71 n71 c71] 27)).alloc (.cells #[.int .i64 11, .int .i64 t.at', .string ⟨#[]⟩, .int .i64 0, .string ⟨#[]⟩, .slice none 0 0, .slice (some ⟨x6.heap.size, 0, none⟩) 1 1, .slice none 0 0] 27) = wz at *
   generalize x6.heap.size + 1 = T at *
   generalize x6.heap.size = gz at *
   go_wp2_with fail
   obtain ⟨p, hp⟩ := tok_at h0.inb
   refine (must_any [116, 104, 101, 110] P g c ts st2 p hp wz h0 HE.out).mono ?_
   rintro e y0 ⟨rfl, h0, fm⟩
   have g0 := fm.keep g0 (by simp; omega)
   have q0 := fm.keep q0 (by simp; omega)
   have F := F.trans fm
   have row := RowG.keep (ok' := fun b => B < b ∧ ¬ b = T ∧ ¬ b = P) keepsE row (Sh.of_fr fm (fun b hb hlt => ⟨hb, by simp; exact hb.2.2⟩))
   clear fm
   obtain ⟨i0, hi, hz0, hz1, hz2⟩ := info_parts infoExpr
   have HI := Lib.hid hi
   have HZ0 := Lib.hid hz0
   have HZ1 := Lib.hid hz1
   have HZ2 := Lib.hid hz2
   clear hi hz0 hz1 hz2
   have hle1 := hr1.le
   simp only at hle1
   have hle2 := mustS_le p st2 [116, 104, 101, 110]
   have cS := fun W hW => Lib.hid (IH.out.item P g c (mustS p st2 [116, 104, 101, 110]) W hW (by have := HN.out; have := h0.inb; omega))
   obtain ⟨⟨l0, l1, l2, l3, l4, l5, l6, l7⟩, _⟩ := cells8 q0
   have hTwr := lt_of_heap q0
   have ROWH := Lib.hid row
   clear row
   go_wp2_with fail
   refine wp_region_last8 (fun w' => w'.cell? ⟨T, 6, none⟩ = some (.slice (some ⟨gz, 0, none⟩) 1 1)) (by kernel_rfl) (by kernel_rfl) ?hS1054_0 (fun K hK hHeld => ?hr1054_0)
   case hS1054_0 => go_keep
   refine held_take (i := 0) (v := ?v1055_0) rfl (by kernel_rfl) (by kernel_rfl) (by kernel_rfl) (fun _ _ _ h => h) (Or.inl ⟨by rfl, ?hy1055_0⟩) (by assumption) ?hr1055_0
   case hy1055_0 =>
    intro w' hSw
    (try dsimp only at hSw)
    go_simp
    (try with_reducible rfl)
   (try simp only [Act.put, List.setIfInBounds_toArray, List.set_cons_zero, List.set_cons_succ])
   refine held_take (i := 1) (v := ?v1056_0) rfl (by kernel_rfl) (by kernel_rfl) (by kernel_rfl) (fun _ _ _ h => h) (Or.inl ⟨by rfl, ?hy1056_0⟩) (by assumption) ?hr1056_0
   case hy1056_0 =>
    intro w' hSw
    (try dsimp only at hSw)
    go_simp
    (try with_reducible rfl)
   (try simp only [Act.put, List.setIfInBounds_toArray, List.set_cons_zero, List.set_cons_succ])
   refine held_take (i := 2) (v := ?v1057_0) rfl (by kernel_rfl) (by kernel_rfl) (by kernel_rfl) (fun _ _ _ h => h) (Or.inl ⟨by rfl, ?hy1057_0⟩) (by assumption) ?hr1057_0
   case hy1057_0 =>
    intro w' hSw
    (try dsimp only at hSw)
    go_simp
    (try with_reducible rfl)
   (try simp only [Act.put, List.setIfInBounds_toArray, List.set_cons_zero, List.set_cons_succ])
   refine held_step (i := 3) rfl (by kernel_rfl) (fun K3 hK3 => ?hr1058_0)
   go_simp
   refine ((cS _ (h0.fr (Fr.refl [] y0).drew)).out).mono ?_
   rintro e x8 ⟨k2, a2, nm2, n2, s2, ls2, args2, arms2, A52, n52, c52, A62, n62, c62, A72, n72, c72, st5, rfl, hx2, hr2, hst5, f8⟩
   have hst := hst5
   have Q8 := f8.keep (w := y0.drew) q0 (by simp; omega)
   have hT8 := lt_of_heap Q8
   have ROW9 := RowG.keep (w' := x8.alloc (.cells #[.int .i64 k2, .int .i64 a2, .string ⟨nm2.toArray⟩, .int .i64 n2, .string ⟨s2.toArray⟩, .slice A52 n52 c52, .slice A62 n62 c62, .slice A72 n72 c72] 27)) (ok' := fun b => B < b ∧ ¬ b = T ∧ ¬ b = P) keepsE ROWH.out (Sh.of_fr (((Fr.refl [P] y0).drew.trans f8).alloc _) (fun b hb hlt => ⟨hb, by simp; exact hb.2.2⟩))
   go_simp
   refine hK3.out _ _ ?hS1058_0 (fun hHeld => ?hq1058_0)
   case hS1058_0 => exact (cells8 Q8).1.2.2.2.2.2.2.1
   clear hK3 K3
   (try simp only [Act.put, List.setIfInBounds_toArray, List.set_cons_zero, List.set_cons_succ])
   refine held_step (i := 4) rfl (by kernel_rfl) (fun K4 hK4 => ?hr1059_0)
   go_simp
   refine hK4.out _ _ ?hS1059_0 (fun hHeld => ?hq1059_0)
   case hS1059_0 => exact cell_of (heap_old Q8 _) 6
   clear hK4 K4
   (try simp only [Act.put, List.setIfInBounds_toArray, List.set_cons_zero, List.set_cons_succ])
   refine held_step (i := 5) rfl (by kernel_rfl) (fun K5 hK5 => ?hr1060_0)
   refine step_append_fp (by rfl) _ _ 24 (by rfl) 27 i0 _ 8 128 Tryz.underlying24 HI.out HZ0.out HZ1.out HZ2.out rfl (by decide) (.slice (some ⟨gz, 0, none⟩) 1 1) 1 (flatN (fun _ => [.int .i64 k1, .int .i64 a1, .string ⟨nm1.toArray⟩, .int .i64 n1, .string ⟨s1.toArray⟩, .slice A51 n51 c51, .slice A61 n61 c61, .slice A71 n71 c71]) 1) (by rfl) ROW9.own ⟨x8.heap.size, 0, none⟩ 1 1 [.int .i64 k2, .int .i64 a2, .string ⟨nm2.toArray⟩, .int .i64 n2, .string ⟨s2.toArray⟩, .slice A52 n52 c52, .slice A62 n62 c62, .slice A72 n72 c72] (by rfl) rfl (World.news_of_block (heap_new x8 _)) (by simp [Value.oneCell']) (by decide) (by decide) ?_
   intro v9 w9 hown9 hgrow9 hfp9
   obtain ⟨g9, cp9, hv9⟩ : ∃ g cap, v9 = .slice (some ⟨g, 0, none⟩) (2) cap := own_form hown9
   subst hv9
   have Q9 := (hgrow9.block T (lt_of_heap (heap_old Q8 (.cells #[.int .i64 k2, .int .i64 a2, .string ⟨nm2.toArray⟩, .int .i64 n2, .string ⟨s2.toArray⟩, .slice A52 n52 c52, .slice A62 n62 c62, .slice A72 n72 c72] 27))) (fun e => (ROWH.out.blk T e.symm).2.1 rfl)).trans (heap_old Q8 (.cells #[.int .i64 k2, .int .i64 a2, .string ⟨nm2.toArray⟩, .int .i64 n2, .string ⟨s2.toArray⟩, .slice A52 n52 c52, .slice A62 n62 c62, .slice A72 n72 c72] 27))
   have hT9 := lt_of_heap Q9
   obtain ⟨⟨u0, u1, u2, u3, u4, u5, u6, u7⟩, z0, z1, z2, z3, z4, z5, z6, z7⟩ := cells8 Q9
   refine hK5.out _ _ ?hS1060_0 (fun hHeld => ?hq1060_0)
   case hS1060_0 => exact u6
   clear hK5 K5
   (try simp only [Act.put, List.setIfInBounds_toArray, List.set_cons_zero, List.set_cons_succ])
   refine held_take (i := 6) (v := ?v1061_0) rfl (by kernel_rfl) (by kernel_rfl) (by kernel_rfl) (fun _ _ _ h => h) (Or.inl ⟨by rfl, ?hy1061_0⟩) (by assumption) ?hr1061_0
   case hy1061_0 =>
    intro w' hSw
    (try dsimp only at hSw)
    go_simp
    (try with_reducible rfl)
   (try simp only [Act.put, List.setIfInBounds_toArray, List.set_cons_zero, List.set_cons_succ])
   refine wpAnyH_done (by kernel_rfl) ?hr1062_0 _
   refine thenLast_run rfl ?hq1062_0
   go_simp
   refine hK.out _ _ ?hs1062_0
   clear hK K
   clear l0 l1 l2 l3 l4 l5 l6 l7 u0 u1 u2 u3 u4 u5 u6 u7 z0 z1 z2 z3 z4 z5 z6 z7
   have f8 : Fr [P] y0 x8 := ((Fr.refl [P] y0).drew).trans f8
   have row := ROWH.out
   obtain ⟨F, g0, q0, h0, row, hsh, hnew, hsz⟩ := app_after (fld := 6) (size := 8) keepsE f8 hx2 rfl hst g0 q0 row F (by omega) (by omega) (by omega) (by omega) (by omega) (by omega) (by omega) hown9 hgrow9 hfp9 (VV' := #[.int .i64 11, .int .i64 t.at', .string ⟨#[]⟩, .int .i64 0, .string ⟨#[]⟩, .slice none 0 0, .slice (some ⟨g9, 0, none⟩) 2 cp9, .slice none 0 0]) rfl
   clear ROWH ROW9 Q8 Q9 hown9 hgrow9 hfp9 f8 hst hT8 hT9 hTwr
   generalize w9.setCell ⟨T, 6, none⟩ (.slice (some ⟨g9, 0, none⟩) 2 cp9) = y1 at *
   clear hsh hnew hsz cS
   go_wp2_with fail
   obtain ⟨q, hq⟩ := tok_at h0.inb
   refine (must_any [101, 108, 115, 101] P g c ts st5 q hq y1 h0 HE.out).mono ?_
   rintro e y2 ⟨rfl, h0, fm⟩
   have g0 := fm.keep g0 (by simp; omega)
   have q0 := fm.keep q0 (by simp; omega)
   have F := F.trans fm
   have row := RowG.keep (ok' := fun b => B < b ∧ ¬ b = T ∧ ¬ b = P) keepsE row (Sh.of_fr fm (fun b hb hlt => ⟨hb, by simp; exact hb.2.2⟩))
   clear fm
   have hle3 := hr2.le
   have hle4 := mustS_le q st5 [101, 108, 115, 101]
   have cS := fun W hW => Lib.hid (IH.out.item P g c (mustS q st5 [101, 108, 115, 101]) W hW (by have := HN.out; have := h0.inb; omega))
   obtain ⟨⟨l0, l1, l2, l3, l4, l5, l6, l7⟩, _⟩ := cells8 q0
   have hTwr := lt_of_heap q0
   have ROWH := Lib.hid row
   clear row
   go_wp2_with fail
   refine wp_region_last8 (fun w' => w'.cell? ⟨T, 6, none⟩ = some (.slice (some ⟨g9, 0, none⟩) 2 cp9)) (by kernel_rfl) (by kernel_rfl) ?hS1063_0 (fun K hK hHeld => ?hr1063_0)
   case hS1063_0 => go_keep
   refine held_take (i := 0) (v := ?v1064_0) rfl (by kernel_rfl) (by kernel_rfl) (by kernel_rfl) (fun _ _ _ h => h) (Or.inl ⟨by rfl, ?hy1064_0⟩) (by assumption) ?hr1064_0
   case hy1064_0 =>
    intro w' hSw
    (try dsimp only at hSw)
    go_simp
    (try with_reducible rfl)
   (try simp only [Act.put, List.setIfInBounds_toArray, List.set_cons_zero, List.set_cons_succ])
   refine held_take (i := 1) (v := ?v1065_0) rfl (by kernel_rfl) (by kernel_rfl) (by kernel_rfl) (fun _ _ _ h => h) (Or.inl ⟨by rfl, ?hy1065_0⟩) (by assumption) ?hr1065_0
   case hy1065_0 =>
    intro w' hSw
    (try dsimp only at hSw)
    go_simp
    (try with_reducible rfl)
   (try simp only [Act.put, List.setIfInBounds_toArray, List.set_cons_zero, List.set_cons_succ])
   refine held_take (i := 2) (v := ?v1066_0) rfl (by kernel_rfl) (by kernel_rfl) (by kernel_rfl) (fun _ _ _ h => h) (Or.inl ⟨by rfl, ?hy1066_0⟩) (by assumption) ?hr1066_0
   case hy1066_0 =>
    intro w' hSw
    (try dsimp only at hSw)
    go_simp
    (try with_reducible rfl)
   (try simp only [Act.put, List.setIfInBounds_toArray, List.set_cons_zero, List.set_cons_succ])
   refine held_step (i := 3) rfl (by kernel_rfl) (fun K3 hK3 => ?hr1067_0)
   go_simp
   refine ((cS _ (h0.fr (Fr.refl [] y2).drew)).out).mono ?_
   rintro e x8 ⟨k3, a3, nm3, n3, s3, ls3, args3, arms3, A53, n53, c53, A63, n63, c63, A73, n73, c73, st7, rfl, hx3, hr3, hst7, f8⟩
   have hst := hst7
   have Q8 := f8.keep (w := y2.drew) q0 (by simp; omega)
   have hT8 := lt_of_heap Q8
   have ROW9 := RowG.keep (w' := x8.alloc (.cells #[.int .i64 k3, .int .i64 a3, .string ⟨nm3.toArray⟩, .int .i64 n3, .string ⟨s3.toArray⟩, .slice A53 n53 c53, .slice A63 n63 c63, .slice A73 n73 c73] 27)) (ok' := fun b => B < b ∧ ¬ b = T ∧ ¬ b = P) keepsE ROWH.out (Sh.of_fr (((Fr.refl [P] y2).drew.trans f8).alloc _) (fun b hb hlt => ⟨hb, by simp; exact hb.2.2⟩))
   go_simp
   refine hK3.out _ _ ?hS1067_0 (fun hHeld => ?hq1067_0)
   case hS1067_0 => exact (cells8 Q8).1.2.2.2.2.2.2.1
   clear hK3 K3
   (try simp only [Act.put, List.setIfInBounds_toArray, List.set_cons_zero, List.set_cons_succ])
   refine held_step (i := 4) rfl (by kernel_rfl) (fun K4 hK4 => ?hr1068_0)
   go_simp
   refine hK4.out _ _ ?hS1068_0 (fun hHeld => ?hq1068_0)
   case hS1068_0 => exact cell_of (heap_old Q8 _) 6
   clear hK4 K4
   (try simp only [Act.put, List.setIfInBounds_toArray, List.set_cons_zero, List.set_cons_succ])
   refine held_step (i := 5) rfl (by kernel_rfl) (fun K5 hK5 => ?hr1069_0)
   refine step_append_fp (by rfl) _ _ 24 (by rfl) 27 i0 _ 8 128 Tryz.underlying24 HI.out HZ0.out HZ1.out HZ2.out rfl (by decide) (.slice (some ⟨g9, 0, none⟩) 2 cp9) 2 (flatN (fun i => if i = [(.mk k1 a1 nm1 n1 s1 ls1 args1 arms1)].length then [.int .i64 k2, .int .i64 a2, .string ⟨nm2.toArray⟩, .int .i64 n2, .string ⟨s2.toArray⟩, .slice A52 n52 c52, .slice A62 n62 c62, .slice A72 n72 c72] else [.int .i64 k1, .int .i64 a1, .string ⟨nm1.toArray⟩, .int .i64 n1, .string ⟨s1.toArray⟩, .slice A51 n51 c51, .slice A61 n61 c61, .slice A71 n71 c71]) 2) (by rfl) ROW9.own ⟨x8.heap.size, 0, none⟩ 1 1 [.int .i64 k3, .int .i64 a3, .string ⟨nm3.toArray⟩, .int .i64 n3, .string ⟨s3.toArray⟩, .slice A53 n53 c53, .slice A63 n63 c63, .slice A73 n73 c73] (by rfl) rfl (World.news_of_block (heap_new x8 _)) (by simp [Value.oneCell']) (by decide) (by decide) ?_
   intro v9 w9 hown9 hgrow9 hfp9
   obtain ⟨g8, cp8, hv9⟩ : ∃ g cap, v9 = .slice (some ⟨g, 0, none⟩) (3) cap := own_form hown9
   subst hv9
   have Q9 := (hgrow9.block T (lt_of_heap (heap_old Q8 (.cells #[.int .i64 k3, .int .i64 a3, .string ⟨nm3.toArray⟩, .int .i64 n3, .string ⟨s3.toArray⟩, .slice A53 n53 c53, .slice A63 n63 c63, .slice A73 n73 c73] 27))) (fun e => (ROWH.out.blk T e.symm).2.1 rfl)).trans (heap_old Q8 (.cells #[.int .i64 k3, .int .i64 a3, .string ⟨nm3.toArray⟩, .int .i64 n3, .string ⟨s3.toArray⟩, .slice A53 n53 c53, .slice A63 n63 c63, .slice A73 n73 c73] 27))
   have hT9 := lt_of_heap Q9
   obtain ⟨⟨u0, u1, u2, u3, u4, u5, u6, u7⟩, z0, z1, z2, z3, z4, z5, z6, z7⟩ := cells8 Q9
   refine hK5.out _ _ ?hS1069_0 (fun hHeld => ?hq1069_0)
   case hS1069_0 => exact u6
   clear hK5 K5
   (try simp only [Act.put, List.setIfInBounds_toArray, List.set_cons_zero, List.set_cons_succ])
   refine held_take (i := 6) (v := ?v1070_0) rfl (by kernel_rfl) (by kernel_rfl) (by kernel_rfl) (fun _ _ _ h => h) (Or.inl ⟨by rfl, ?hy1070_0⟩) (by assumption) ?hr1070_0
   case hy1070_0 =>
    intro w' hSw
    (try dsimp only at hSw)
    go_simp
    (try with_reducible rfl)
   (try simp only [Act.put, List.setIfInBounds_toArray, List.set_cons_zero, List.set_cons_succ])
   refine wpAnyH_done (by kernel_rfl) ?hr1071_0 _
   refine thenLast_run rfl ?hq1071_0
   go_simp
   refine hK.out _ _ ?hs1071_0
   clear hK K
   clear l0 l1 l2 l3 l4 l5 l6 l7 u0 u1 u2 u3 u4 u5 u6 u7 z0 z1 z2 z3 z4 z5 z6 z7
   have f8 : Fr [P] y2 x8 := ((Fr.refl [P] y2).drew).trans f8
   have row := ROWH.out
   obtain ⟨F, g0, q0, h0, row, hsh, hnew, hsz⟩ := app_after (fld := 6) (size := 8) keepsE f8 hx3 rfl hst g0 q0 row F (by omega) (by omega) (by omega) (by omega) (by omega) (by omega) (by omega) hown9 hgrow9 hfp9 (VV' := #[.int .i64 11, .int .i64 t.at', .string ⟨#[]⟩, .int .i64 0, .string ⟨#[]⟩, .slice none 0 0, .slice (some ⟨g8, 0, none⟩) 3 cp8, .slice none 0 0]) rfl
   clear ROWH ROW9 Q8 Q9 hown9 hgrow9 hfp9 f8 hst hT8 hT9 hTwr
   generalize w9.setCell ⟨T, 6, none⟩ (.slice (some ⟨g8, 0, none⟩) 3 cp8) = y3 at *
   clear hsh hnew hsz cS
   have hBT2 := lt_of_heap g0
   have row0 := RowG.keep (ok' := fun b => B < b) keepsE row (Sh.of_fr (Fr.refl [] y3) (fun b hb hlt => ⟨hb.1, fun x => by cases x⟩))
   obtain ⟨⟨l0, l1, l2, l3, l4, l5, l6, l7⟩, _⟩ := cells8 q0
   obtain ⟨⟨u0, u1, u2, u3, u4, u5, u6, u7⟩, z0, z1, z2, z3, z4, z5, z6, z7⟩ := cells8 g0
   clear row
   have HG := Lib.hid (st8_heap g0 (.int .i64 11) (.int .i64 t.at') (.string ⟨#[]⟩) (.int .i64 0) (.string ⟨#[]⟩) (.slice none 0 0) (.slice (some ⟨g8, 0, none⟩) 3 cp8) (.slice none 0 0))
   have HF := Lib.hid ((F).step (st8_fr y3 B (.int .i64 11) (.int .i64 t.at') (.string ⟨#[]⟩) (.int .i64 0) (.string ⟨#[]⟩) (.slice none 0 0) (.slice (some ⟨g8, 0, none⟩) 3 cp8) (.slice none 0 0)) (fun x hx => .inr (by simp at hx; omega)))
   have HP := Lib.hid ((h0).frL (st8_fr y3 B (.int .i64 11) (.int .i64 t.at') (.string ⟨#[]⟩) (.int .i64 0) (.string ⟨#[]⟩) (.slice none 0 0) (.slice (some ⟨g8, 0, none⟩) 3 cp8) (.slice none 0 0)) (by simpa using nP) (by simpa using ng))
   have HR := Lib.hid (RowG.keep (ok' := fun b => B ≤ b) keepsE row0 (Sh.of_fr (st8_fr y3 B (.int .i64 11) (.int .i64 t.at') (.string ⟨#[]⟩) (.int .i64 0) (.string ⟨#[]⟩) (.slice none 0 0) (.slice (some ⟨g8, 0, none⟩) 3 cp8) (.slice none 0 0)) (fun b hb hlt => ⟨by omega, by simp; omega⟩)))
   unfold st8 at HG HF HP HR
   go_wp2_with fail
   generalize (((((((y3.setCell ⟨B, 0, none⟩ (.int .i64 11)).setCell ⟨B, 1, none⟩ (.int .i64 t.at')).setCell ⟨B, 2, none⟩ (.string ⟨#[]⟩)).setCell ⟨B, 3, none⟩ (.int .i64 0)).setCell ⟨B, 4, none⟩ (.string ⟨#[]⟩)).setCell ⟨B, 5, none⟩ (.slice none 0 0)).setCell ⟨B, 6, none⟩ (.slice (some ⟨g8, 0, none⟩) 3 cp8)).setCell ⟨B, 7, none⟩ (.slice none 0 0) = Z at HG HF HP HR ⊢
   obtain ⟨⟨d0, d1, d2, d3, d4, d5, d6, d7⟩, _⟩ := cells8 HG.out
   have hxx := ExprAt.of_rows (k := 11) (a := t.at') (nm := []) (n := 0) (s := []) (c5 := fun _ => []) (c7 := fun _ => []) RowG.nil_ HR.out RowG.nil_
   refine bodyPost_ret (v := .agg #[.int .i64 11, .int .i64 t.at', .string ⟨#[]⟩, .int .i64 0, .string ⟨#[]⟩, .slice none 0 0, .slice (some ⟨g8, 0, none⟩) 3 cp8, .slice none 0 0]) ?_ rfl ?_
   ·simp [results, Tryz.f33, go_sem, d0, d1, d2, d3, d4, d5, d6, d7]
   ·exact ⟨_, _, _, _, _, _, _, _, _, _, _, _, _, _, _, _, _, _, rfl, by rw [hB]; exact hxx, .look HT.out (.may_no HT.out HB0.out (.els (.isC_ HT.out HB1.out (.els (.may_no HT.out HB2.out (.els (.may_no HT.out HB3.out (.els (.may_yes HT.out HB4.out (.thn (.callE hr1 (.must_ hp (.callE hr2 (.must_ hq (.callE hr3 .retE))))))))))))))), HP.out, HF.out⟩
  case hD =>
   go_simp
   refine hK6.out _ _ ?hS1044 (fun hHeld => ?hq1044)
   case hS1044 => exact (cells4 (heap_old Q6 _)).2.1
   clear hK6 K6
   (try simp only [Act.put, List.setIfInBounds_toArray, List.set_cons_zero, List.set_cons_succ])
   refine held_step (i := 4) rfl (by kernel_rfl) (fun K4 hK4 => ?hr1045)
   go_simp
   refine hK4.out _ _ ?hS1045 (fun hHeld => ?hq1045)
   case hS1045 => exact (cells4 (heap_old (heap_old Q6 _) _)).2.1
   clear hK4 K4
   (try simp only [Act.put, List.setIfInBounds_toArray, List.set_cons_zero, List.set_cons_succ])
   refine held_take (i := 5) (v := ?v1046) rfl (by kernel_rfl) (by kernel_rfl) (by kernel_rfl) (fun _ _ _ h => h) (Or.inl ⟨by rfl, ?hy1046⟩) (by assumption) ?hr1046
   case hy1046 =>
    intro w' hSw
    (try dsimp only at hSw)
    go_simp
    (try with_reducible rfl)
   (try simp only [Act.put, List.setIfInBounds_toArray, List.set_cons_zero, List.set_cons_succ])
   refine wpAnyH_done (by kernel_rfl) ?hr1047 _
   refine thenLast_run rfl ?hq1047
   go_simp
   refine hK.out _ _ ?hs1047
   clear hK K
   have f6 : Fr [P] x5 x6 := ((Fr.refl [P] x5).drew).trans f6
   have hs6 := f6.size
   have hx1 := hx1.keep (ok' := fun b => B < b ∧ ¬ b = x6.heap.size ∧ ¬ b = P) (Sh.of_fr (Fr.refl [] x6) (fun b hb hlt => ⟨by have : x5.heap.size ≤ b := hb; exact ⟨by omega, by omega, by omega⟩, fun x => by cases x⟩))
   have hsz : (x6.alloc (.cells #[.int .i64 11, .int .i64 t.at', .string ⟨#[]⟩, .int .i64 0, .string ⟨#[]⟩, .slice none 0 0, .slice (some ⟨x6.heap.size + 1, 0, none⟩) 1 1, .slice none 0 0] 27)).heap.size = x6.heap.size + 1 := by simp
   have fe := (Fr.refl [] x6).alloc (.cells #[.int .i64 11, .int .i64 t.at', .string ⟨#[]⟩, .int .i64 0, .string ⟨#[]⟩, .slice none 0 0, .slice (some ⟨x6.heap.size + 1, 0, none⟩) 1 1, .slice none 0 0] 27)
   have hx1 := hx1.keep (ok' := fun b => B < b ∧ ¬ b = x6.heap.size ∧ ¬ b = P) (Sh.of_fr fe (fun b hb hlt => ⟨hb, fun x => by cases x⟩))
   have row := RowG.lit keepsE (T := 27) (size := 8) (ok := fun b => B < b ∧ ¬ b = x6.heap.size ∧ ¬ b = P) hx1 rfl (by rw [hsz]; exact ⟨by omega, by omega, by omega⟩)
   have q0 := heap_old (heap_new x6 (.cells #[.int .i64 11, .int .i64 t.at', .string ⟨#[]⟩, .int .i64 0, .string ⟨#[]⟩, .slice none 0 0, .slice (some ⟨x6.heap.size + 1, 0, none⟩) 1 1, .slice none 0 0] 27)) (.cells #[.int .i64 k1, .int .i64 a1, .string ⟨nm1.toArray⟩, .int .i64 n1, .string ⟨s1.toArray⟩, .slice A51 n51 c51, .slice A61 n61 c61, .slice A71 n71 c71] 27)
   have fbb : Fr [] x6 ((x6.alloc (.cells #[.int .i64 11, .int .i64 t.at', .string ⟨#[]⟩, .int .i64 0, .string ⟨#[]⟩, .slice none 0 0, .slice (some ⟨x6.heap.size + 1, 0, none⟩) 1 1, .slice none 0 0] 27)).alloc (.cells #[.int .i64 k1, .int .i64 a1, .string ⟨nm1.toArray⟩, .int .i64 n1, .string ⟨s1.toArray⟩, .slice A51 n51 c51, .slice A61 n61 c61, .slice A71 n71 c71] 27)) := ((Fr.refl [] x6).alloc _).alloc _
   have g0 := fbb.keep (f6.keep g0 (by simp; omega)) (fun x => by cases x)
   have h0 := hst2.fr fbb
   have F := (F.trans f6).trans0 fbb
   have hBT : B < x6.heap.size := by omega
   rw [hsz] at row
   clear hsz fbb fe f6 hx1 hst2 Q6 M6 q3 hT6 hs6 m0 m1 m2 m3 cS
   generalize (x6.alloc (.cells #[.int .i64 11, .int .i64 t.at', .string ⟨#[]⟩, .int .i64 0, .string ⟨#[]⟩, .slice none 0 0, .slice (some ⟨x6.heap.size + 1, 0, none⟩) 1 1, .slice none 0 0] 27)).alloc (.cells #[.int .i64 k1, .int .i64 a1, .string ⟨nm1.toArray⟩, .int .i64 n1, .string ⟨s1.toArray⟩, .slice A51 n51 c51, .slice A61 n61 c61, .slice A71 n71 c71] 27) = wz at *
   generalize x6.heap.size + 1 = gz at *
   generalize x6.heap.size = T at *
   go_wp2_with fail
   obtain ⟨p, hp⟩ := tok_at h0.inb
   refine (must_any [116, 104, 101, 110] P g c ts st2 p hp wz h0 HE.out).mono ?_
   rintro e y0 ⟨rfl, h0, fm⟩
   have g0 := fm.keep g0 (by simp; omega)
   have q0 := fm.keep q0 (by simp; omega)
   have F := F.trans fm
   have row := RowG.keep (ok' := fun b => B < b ∧ ¬ b = T ∧ ¬ b = P) keepsE row (Sh.of_fr fm (fun b hb hlt => ⟨hb, by simp; exact hb.2.2⟩))
   clear fm
   obtain ⟨i0, hi, hz0, hz1, hz2⟩ := info_parts infoExpr
   have HI := Lib.hid hi
   have HZ0 := Lib.hid hz0
   have HZ1 := Lib.hid hz1
   have HZ2 := Lib.hid hz2
   clear hi hz0 hz1 hz2
   have hle1 := hr1.le
   simp only at hle1
   have hle2 := mustS_le p st2 [116, 104, 101, 110]
   have cS := fun W hW => Lib.hid (IH.out.item P g c (mustS p st2 [116, 104, 101, 110]) W hW (by have := HN.out; have := h0.inb; omega))
   obtain ⟨⟨l0, l1, l2, l3, l4, l5, l6, l7⟩, _⟩ := cells8 q0
   have hTwr := lt_of_heap q0
   have ROWH := Lib.hid row
   clear row
   go_wp2_with fail
   refine wp_region_last8 (fun w' => w'.cell? ⟨T, 6, none⟩ = some (.slice (some ⟨gz, 0, none⟩) 1 1)) (by kernel_rfl) (by kernel_rfl) ?hS1054_1 (fun K hK hHeld => ?hr1054_1)
   case hS1054_1 => go_keep
   refine held_take (i := 0) (v := ?v1055_1) rfl (by kernel_rfl) (by kernel_rfl) (by kernel_rfl) (fun _ _ _ h => h) (Or.inl ⟨by rfl, ?hy1055_1⟩) (by assumption) ?hr1055_1
   case hy1055_1 =>
    intro w' hSw
    (try dsimp only at hSw)
    go_simp
    (try with_reducible rfl)
   (try simp only [Act.put, List.setIfInBounds_toArray, List.set_cons_zero, List.set_cons_succ])
   refine held_take (i := 1) (v := ?v1056_1) rfl (by kernel_rfl) (by kernel_rfl) (by kernel_rfl) (fun _ _ _ h => h) (Or.inl ⟨by rfl, ?hy1056_1⟩) (by assumption) ?hr1056_1
   case hy1056_1 =>
    intro w' hSw
    (try dsimp only at hSw)
    go_simp
    (try with_reducible rfl)
   (try simp only [Act.put, List.setIfInBounds_toArray, List.set_cons_zero, List.set_cons_succ])
   refine held_take (i := 2) (v := ?v1057_1) rfl (by kernel_rfl) (by kernel_rfl) (by kernel_rfl) (fun _ _ _ h => h) (Or.inl ⟨by rfl, ?hy1057_1⟩) (by assumption) ?hr1057_1
   case hy1057_1 =>
    intro w' hSw
    (try dsimp only at hSw)
    go_simp
    (try with_reducible rfl)
   (try simp only [Act.put, List.setIfInBounds_toArray, List.set_cons_zero, List.set_cons_succ])
   refine held_step (i := 3) rfl (by kernel_rfl) (fun K3 hK3 => ?hr1058_1)
   go_simp
   refine ((cS _ (h0.fr (Fr.refl [] y0).drew)).out).mono ?_
   rintro e x8 ⟨k2, a2, nm2, n2, s2, ls2, args2, arms2, A52, n52, c52, A62, n62, c62, A72, n72, c72, st5, rfl, hx2, hr2, hst5, f8⟩
   have hst := hst5
   have Q8 := f8.keep (w := y0.drew) q0 (by simp; omega)
   have hT8 := lt_of_heap Q8
   have ROW9 := RowG.keep (w' := x8.alloc (.cells #[.int .i64 k2, .int .i64 a2, .string ⟨nm2.toArray⟩, .int .i64 n2, .string ⟨s2.toArray⟩, .slice A52 n52 c52, .slice A62 n62 c62, .slice A72 n72 c72] 27)) (ok' := fun b => B < b ∧ ¬ b = T ∧ ¬ b = P) keepsE ROWH.out (Sh.of_fr (((Fr.refl [P] y0).drew.trans f8).alloc _) (fun b hb hlt => ⟨hb, by simp; exact hb.2.2⟩))
   go_simp
   refine hK3.out _ _ ?hS1058_1 (fun hHeld => ?hq1058_1)
   case hS1058_1 => exact (cells8 Q8).1.2.2.2.2.2.2.1
   clear hK3 K3
   (try simp only [Act.put, List.setIfInBounds_toArray, List.set_cons_zero, List.set_cons_succ])
   refine held_step (i := 4) rfl (by kernel_rfl) (fun K4 hK4 => ?hr1059_1)
   go_simp
   refine hK4.out _ _ ?hS1059_1 (fun hHeld => ?hq1059_1)
   case hS1059_1 => exact cell_of (heap_old Q8 _) 6
   clear hK4 K4
   (try simp only [Act.put, List.setIfInBounds_toArray, List.set_cons_zero, List.set_cons_succ])
   refine held_step (i := 5) rfl (by kernel_rfl) (fun K5 hK5 => ?hr1060_1)
   refine step_append_fp (by rfl) _ _ 24 (by rfl) 27 i0 _ 8 128 Tryz.underlying24 HI.out HZ0.out HZ1.out HZ2.out rfl (by decide) (.slice (some ⟨gz, 0, none⟩) 1 1) 1 (flatN (fun _ => [.int .i64 k1, .int .i64 a1, .string ⟨nm1.toArray⟩, .int .i64 n1, .string ⟨s1.toArray⟩, .slice A51 n51 c51, .slice A61 n61 c61, .slice A71 n71 c71]) 1) (by rfl) ROW9.own ⟨x8.heap.size, 0, none⟩ 1 1 [.int .i64 k2, .int .i64 a2, .string ⟨nm2.toArray⟩, .int .i64 n2, .string ⟨s2.toArray⟩, .slice A52 n52 c52, .slice A62 n62 c62, .slice A72 n72 c72] (by rfl) rfl (World.news_of_block (heap_new x8 _)) (by simp [Value.oneCell']) (by decide) (by decide) ?_
   intro v9 w9 hown9 hgrow9 hfp9
   obtain ⟨g9, cp9, hv9⟩ : ∃ g cap, v9 = .slice (some ⟨g, 0, none⟩) (2) cap := own_form hown9
   subst hv9
   have Q9 := (hgrow9.block T (lt_of_heap (heap_old Q8 (.cells #[.int .i64 k2, .int .i64 a2, .string ⟨nm2.toArray⟩, .int .i64 n2, .string ⟨s2.toArray⟩, .slice A52 n52 c52, .slice A62 n62 c62, .slice A72 n72 c72] 27))) (fun e => (ROWH.out.blk T e.symm).2.1 rfl)).trans (heap_old Q8 (.cells #[.int .i64 k2, .int .i64 a2, .string ⟨nm2.toArray⟩, .int .i64 n2, .string ⟨s2.toArray⟩, .slice A52 n52 c52, .slice A62 n62 c62, .slice A72 n72 c72] 27))
   have hT9 := lt_of_heap Q9
   obtain ⟨⟨u0, u1, u2, u3, u4, u5, u6, u7⟩, z0, z1, z2, z3, z4, z5, z6, z7⟩ := cells8 Q9
   refine hK5.out _ _ ?hS1060_1 (fun hHeld => ?hq1060_1)
   case hS1060_1 => exact u6
   clear hK5 K5
   (try simp only [Act.put, List.setIfInBounds_toArray, List.set_cons_zero, List.set_cons_succ])
   refine held_take (i := 6) (v := ?v1061_1) rfl (by kernel_rfl) (by kernel_rfl) (by kernel_rfl) (fun _ _ _ h => h) (Or.inl ⟨by rfl, ?hy1061_1⟩) (by assumption) ?hr1061_1
   case hy1061_1 =>
    intro w' hSw
    (try dsimp only at hSw)
    go_simp
    (try with_reducible rfl)
   (try simp only [Act.put, List.setIfInBounds_toArray, List.set_cons_zero, List.set_cons_succ])
   refine wpAnyH_done (by kernel_rfl) ?hr1062_1 _
   refine thenLast_run rfl ?hq1062_1
   go_simp
   refine hK.out _ _ ?hs1062_1
   clear hK K
   clear l0 l1 l2 l3 l4 l5 l6 l7 u0 u1 u2 u3 u4 u5 u6 u7 z0 z1 z2 z3 z4 z5 z6 z7
   have f8 : Fr [P] y0 x8 := ((Fr.refl [P] y0).drew).trans f8
   have row := ROWH.out
   obtain ⟨F, g0, q0, h0, row, hsh, hnew, hsz⟩ := app_after (fld := 6) (size := 8) keepsE f8 hx2 rfl hst g0 q0 row F (by omega) (by omega) (by omega) (by omega) (by omega) (by omega) (by omega) hown9 hgrow9 hfp9 (VV' := #[.int .i64 11, .int .i64 t.at', .string ⟨#[]⟩, .int .i64 0, .string ⟨#[]⟩, .slice none 0 0, .slice (some ⟨g9, 0, none⟩) 2 cp9, .slice none 0 0]) rfl
   clear ROWH ROW9 Q8 Q9 hown9 hgrow9 hfp9 f8 hst hT8 hT9 hTwr
   generalize w9.setCell ⟨T, 6, none⟩ (.slice (some ⟨g9, 0, none⟩) 2 cp9) = y1 at *
   clear hsh hnew hsz cS
   go_wp2_with fail
   obtain ⟨q, hq⟩ := tok_at h0.inb
   refine (must_any [101, 108, 115, 101] P g c ts st5 q hq y1 h0 HE.out).mono ?_
   rintro e y2 ⟨rfl, h0, fm⟩
   have g0 := fm.keep g0 (by simp; omega)
   have q0 := fm.keep q0 (by simp; omega)
   have F := F.trans fm
   have row := RowG.keep (ok' := fun b => B < b ∧ ¬ b = T ∧ ¬ b = P) keepsE row (Sh.of_fr fm (fun b hb hlt => ⟨hb, by simp; exact hb.2.2⟩))
   clear fm
   have hle3 := hr2.le
   have hle4 := mustS_le q st5 [101, 108, 115, 101]
   have cS := fun W hW => Lib.hid (IH.out.item P g c (mustS q st5 [101, 108, 115, 101]) W hW (by have := HN.out; have := h0.inb; omega))
   obtain ⟨⟨l0, l1, l2, l3, l4, l5, l6, l7⟩, _⟩ := cells8 q0
   have hTwr := lt_of_heap q0
   have ROWH := Lib.hid row
   clear row
   go_wp2_with fail
   refine wp_region_last8 (fun w' => w'.cell? ⟨T, 6, none⟩ = some (.slice (some ⟨g9, 0, none⟩) 2 cp9)) (by kernel_rfl) (by kernel_rfl) ?hS1063_1 (fun K hK hHeld => ?hr1063_1)
   case hS1063_1 => go_keep
   refine held_take (i := 0) (v := ?v1064_1) rfl (by kernel_rfl) (by kernel_rfl) (by kernel_rfl) (fun _ _ _ h => h) (Or.inl ⟨by rfl, ?hy1064_1⟩) (by assumption) ?hr1064_1
   case hy1064_1 =>
    intro w' hSw
    (try dsimp only at hSw)
    go_simp
    (try with_reducible rfl)
   (try simp only [Act.put, List.setIfInBounds_toArray, List.set_cons_zero, List.set_cons_succ])
   refine held_take (i := 1) (v := ?v1065_1) rfl (by kernel_rfl) (by kernel_rfl) (by kernel_rfl) (fun _ _ _ h => h) (Or.inl ⟨by rfl, ?hy1065_1⟩) (by assumption) ?hr1065_1
   case hy1065_1 =>
    intro w' hSw
    (try dsimp only at hSw)
    go_simp
    (try with_reducible rfl)
   (try simp only [Act.put, List.setIfInBounds_toArray, List.set_cons_zero, List.set_cons_succ])
   refine held_take (i := 2) (v := ?v1066_1) rfl (by kernel_rfl) (by kernel_rfl) (by kernel_rfl) (fun _ _ _ h => h) (Or.inl ⟨by rfl, ?hy1066_1⟩) (by assumption) ?hr1066_1
   case hy1066_1 =>
    intro w' hSw
    (try dsimp only at hSw)
    go_simp
    (try with_reducible rfl)
   (try simp only [Act.put, List.setIfInBounds_toArray, List.set_cons_zero, List.set_cons_succ])
   refine held_step (i := 3) rfl (by kernel_rfl) (fun K3 hK3 => ?hr1067_1)
   go_simp
   refine ((cS _ (h0.fr (Fr.refl [] y2).drew)).out).mono ?_
   rintro e x8 ⟨k3, a3, nm3, n3, s3, ls3, args3, arms3, A53, n53, c53, A63, n63, c63, A73, n73, c73, st7, rfl, hx3, hr3, hst7, f8⟩
   have hst := hst7
   have Q8 := f8.keep (w := y2.drew) q0 (by simp; omega)
   have hT8 := lt_of_heap Q8
   have ROW9 := RowG.keep (w' := x8.alloc (.cells #[.int .i64 k3, .int .i64 a3, .string ⟨nm3.toArray⟩, .int .i64 n3, .string ⟨s3.toArray⟩, .slice A53 n53 c53, .slice A63 n63 c63, .slice A73 n73 c73] 27)) (ok' := fun b => B < b ∧ ¬ b = T ∧ ¬ b = P) keepsE ROWH.out (Sh.of_fr (((Fr.refl [P] y2).drew.trans f8).alloc _) (fun b hb hlt => ⟨hb, by simp; exact hb.2.2⟩))
   go_simp
   refine hK3.out _ _ ?hS1067_1 (fun hHeld => ?hq1067_1)
   case hS1067_1 => exact (cells8 Q8).1.2.2.2.2.2.2.1
   clear hK3 K3
   (try simp only [Act.put, List.setIfInBounds_toArray, List.set_cons_zero, List.set_cons_succ])
   refine held_step (i := 4) rfl (by kernel_rfl) (fun K4 hK4 => ?hr1068_1)
   go_simp
   refine hK4.out _ _ ?hS1068_1 (fun hHeld => ?hq1068_1)
   case hS1068_1 => exact cell_of (heap_old Q8 _) 6
   clear hK4 K4
   (try simp only [Act.put, List.setIfInBounds_toArray, List.set_cons_zero, List.set_cons_succ])
   refine held_step (i := 5) rfl (by kernel_rfl) (fun K5 hK5 => ?hr1069_1)
   refine step_append_fp (by rfl) _ _ 24 (by rfl) 27 i0 _ 8 128 Tryz.underlying24 HI.out HZ0.out HZ1.out HZ2.out rfl (by decide) (.slice (some ⟨g9, 0, none⟩) 2 cp9) 2 (flatN (fun i => if i = [(.mk k1 a1 nm1 n1 s1 ls1 args1 arms1)].length then [.int .i64 k2, .int .i64 a2, .string ⟨nm2.toArray⟩, .int .i64 n2, .string ⟨s2.toArray⟩, .slice A52 n52 c52, .slice A62 n62 c62, .slice A72 n72 c72] else [.int .i64 k1, .int .i64 a1, .string ⟨nm1.toArray⟩, .int .i64 n1, .string ⟨s1.toArray⟩, .slice A51 n51 c51, .slice A61 n61 c61, .slice A71 n71 c71]) 2) (by rfl) ROW9.own ⟨x8.heap.size, 0, none⟩ 1 1 [.int .i64 k3, .int .i64 a3, .string ⟨nm3.toArray⟩, .int .i64 n3, .string ⟨s3.toArray⟩, .slice A53 n53 c53, .slice A63 n63 c63, .slice A73 n73 c73] (by rfl) rfl (World.news_of_block (heap_new x8 _)) (by simp [Value.oneCell']) (by decide) (by decide) ?_
   intro v9 w9 hown9 hgrow9 hfp9
   obtain ⟨g8, cp8, hv9⟩ : ∃ g cap, v9 = .slice (some ⟨g, 0, none⟩) (3) cap := own_form hown9
   subst hv9
   have Q9 := (hgrow9.block T (lt_of_heap (heap_old Q8 (.cells #[.int .i64 k3, .int .i64 a3, .string ⟨nm3.toArray⟩, .int .i64 n3, .string ⟨s3.toArray⟩, .slice A53 n53 c53, .slice A63 n63 c63, .slice A73 n73 c73] 27))) (fun e => (ROWH.out.blk T e.symm).2.1 rfl)).trans (heap_old Q8 (.cells #[.int .i64 k3, .int .i64 a3, .string ⟨nm3.toArray⟩, .int .i64 n3, .string ⟨s3.toArray⟩, .slice A53 n53 c53, .slice A63 n63 c63, .slice A73 n73 c73] 27))
   have hT9 := lt_of_heap Q9
   obtain ⟨⟨u0, u1, u2, u3, u4, u5, u6, u7⟩, z0, z1, z2, z3, z4, z5, z6, z7⟩ := cells8 Q9
   refine hK5.out _ _ ?hS1069_1 (fun hHeld => ?hq1069_1)
   case hS1069_1 => exact u6
   clear hK5 K5
   (try simp only [Act.put, List.setIfInBounds_toArray, List.set_cons_zero, List.set_cons_succ])
   refine held_take (i := 6) (v := ?v1070_1) rfl (by kernel_rfl) (by kernel_rfl) (by kernel_rfl) (fun _ _ _ h => h) (Or.inl ⟨by rfl, ?hy1070_1⟩) (by assumption) ?hr1070_1
   case hy1070_1 =>
    intro w' hSw
    (try dsimp only at hSw)
    go_simp
    (try with_reducible rfl)
   (try simp only [Act.put, List.setIfInBounds_toArray, List.set_cons_zero, List.set_cons_succ])
   refine wpAnyH_done (by kernel_rfl) ?hr1071_1 _
   refine thenLast_run rfl ?hq1071_1
   go_simp
   refine hK.out _ _ ?hs1071_1
   clear hK K
   clear l0 l1 l2 l3 l4 l5 l6 l7 u0 u1 u2 u3 u4 u5 u6 u7 z0 z1 z2 z3 z4 z5 z6 z7
   have f8 : Fr [P] y2 x8 := ((Fr.refl [P] y2).drew).trans f8
   have row := ROWH.out
   obtain ⟨F, g0, q0, h0, row, hsh, hnew, hsz⟩ := app_after (fld := 6) (size := 8) keepsE f8 hx3 rfl hst g0 q0 row F (by omega) (by omega) (by omega) (by omega) (by omega) (by omega) (by omega) hown9 hgrow9 hfp9 (VV' := #[.int .i64 11, .int .i64 t.at', .string ⟨#[]⟩, .int .i64 0, .string ⟨#[]⟩, .slice none 0 0, .slice (some ⟨g8, 0, none⟩) 3 cp8, .slice none 0 0]) rfl
   clear ROWH ROW9 Q8 Q9 hown9 hgrow9 hfp9 f8 hst hT8 hT9 hTwr
   generalize w9.setCell ⟨T, 6, none⟩ (.slice (some ⟨g8, 0, none⟩) 3 cp8) = y3 at *
   clear hsh hnew hsz cS
   have hBT2 := lt_of_heap g0
   have row0 := RowG.keep (ok' := fun b => B < b) keepsE row (Sh.of_fr (Fr.refl [] y3) (fun b hb hlt => ⟨hb.1, fun x => by cases x⟩))
   obtain ⟨⟨l0, l1, l2, l3, l4, l5, l6, l7⟩, _⟩ := cells8 q0
   obtain ⟨⟨u0, u1, u2, u3, u4, u5, u6, u7⟩, z0, z1, z2, z3, z4, z5, z6, z7⟩ := cells8 g0
   clear row
   have HG := Lib.hid (st8_heap g0 (.int .i64 11) (.int .i64 t.at') (.string ⟨#[]⟩) (.int .i64 0) (.string ⟨#[]⟩) (.slice none 0 0) (.slice (some ⟨g8, 0, none⟩) 3 cp8) (.slice none 0 0))
   have HF := Lib.hid ((F).step (st8_fr y3 B (.int .i64 11) (.int .i64 t.at') (.string ⟨#[]⟩) (.int .i64 0) (.string ⟨#[]⟩) (.slice none 0 0) (.slice (some ⟨g8, 0, none⟩) 3 cp8) (.slice none 0 0)) (fun x hx => .inr (by simp at hx; omega)))
   have HP := Lib.hid ((h0).frL (st8_fr y3 B (.int .i64 11) (.int .i64 t.at') (.string ⟨#[]⟩) (.int .i64 0) (.string ⟨#[]⟩) (.slice none 0 0) (.slice (some ⟨g8, 0, none⟩) 3 cp8) (.slice none 0 0)) (by simpa using nP) (by simpa using ng))
   have HR := Lib.hid (RowG.keep (ok' := fun b => B ≤ b) keepsE row0 (Sh.of_fr (st8_fr y3 B (.int .i64 11) (.int .i64 t.at') (.string ⟨#[]⟩) (.int .i64 0) (.string ⟨#[]⟩) (.slice none 0 0) (.slice (some ⟨g8, 0, none⟩) 3 cp8) (.slice none 0 0)) (fun b hb hlt => ⟨by omega, by simp; omega⟩)))
   unfold st8 at HG HF HP HR
   go_wp2_with fail
   generalize (((((((y3.setCell ⟨B, 0, none⟩ (.int .i64 11)).setCell ⟨B, 1, none⟩ (.int .i64 t.at')).setCell ⟨B, 2, none⟩ (.string ⟨#[]⟩)).setCell ⟨B, 3, none⟩ (.int .i64 0)).setCell ⟨B, 4, none⟩ (.string ⟨#[]⟩)).setCell ⟨B, 5, none⟩ (.slice none 0 0)).setCell ⟨B, 6, none⟩ (.slice (some ⟨g8, 0, none⟩) 3 cp8)).setCell ⟨B, 7, none⟩ (.slice none 0 0) = Z at HG HF HP HR ⊢
   obtain ⟨⟨d0, d1, d2, d3, d4, d5, d6, d7⟩, _⟩ := cells8 HG.out
   have hxx := ExprAt.of_rows (k := 11) (a := t.at') (nm := []) (n := 0) (s := []) (c5 := fun _ => []) (c7 := fun _ => []) RowG.nil_ HR.out RowG.nil_
   refine bodyPost_ret (v := .agg #[.int .i64 11, .int .i64 t.at', .string ⟨#[]⟩, .int .i64 0, .string ⟨#[]⟩, .slice none 0 0, .slice (some ⟨g8, 0, none⟩) 3 cp8, .slice none 0 0]) ?_ rfl ?_
   ·simp [results, Tryz.f33, go_sem, d0, d1, d2, d3, d4, d5, d6, d7]
   ·exact ⟨_, _, _, _, _, _, _, _, _, _, _, _, _, _, _, _, _, _, rfl, by rw [hB]; exact hxx, .look HT.out (.may_no HT.out HB0.out (.els (.isC_ HT.out HB1.out (.els (.may_no HT.out HB2.out (.els (.may_no HT.out HB3.out (.els (.may_yes HT.out HB4.out (.thn (.callE hr1 (.must_ hp (.callE hr2 (.must_ hq (.callE hr3 .retE))))))))))))))), HP.out, HF.out⟩
 case hB =>
  go_simp
  refine hK6.out _ _ ?hS1049 (fun hHeld => ?hq1049)
  case hS1049 => exact (cells4 (heap_old q3 _)).2.1
  clear hK6 K6
  (try simp only [Act.put, List.setIfInBounds_toArray, List.set_cons_zero, List.set_cons_succ])
  refine held_step (i := 3) rfl (by kernel_rfl) (fun K3 hK3 => ?hr1050)
  go_simp
  refine (cS _ (h0.fr ((Fr.refl [] x5).alloc (.cells #[.int .i64 0, .int .i64 0, .string ⟨#[]⟩, .int .i64 0, .string ⟨#[]⟩, .slice none 0 0, .slice none 0 0, .slice none 0 0] 27)).drew)).out.mono ?_
  rintro e x6 ⟨k1, a1, nm1, n1, s1, ls1, args1, arms1, A51, n51, c51, A61, n61, c61, A71, n71, c71, st2, rfl, hx1, hr1, hst2, f6⟩
  have Q6 := f6.keep (w := (x5.alloc (.cells #[.int .i64 0, .int .i64 0, .string ⟨#[]⟩, .int .i64 0, .string ⟨#[]⟩, .slice none 0 0, .slice none 0 0, .slice none 0 0] 27)).drew) (heap_old q3 (.cells #[.int .i64 0, .int .i64 0, .string ⟨#[]⟩, .int .i64 0, .string ⟨#[]⟩, .slice none 0 0, .slice none 0 0, .slice none 0 0] 27)) (by simp; omega)
  have hT6 := lt_of_heap Q6
  have M6 := cells4 Q6
  have R6 := f6.keep (w := (x5.alloc (.cells #[.int .i64 0, .int .i64 0, .string ⟨#[]⟩, .int .i64 0, .string ⟨#[]⟩, .slice none 0 0, .slice none 0 0, .slice none 0 0] 27)).drew) (heap_new x5 (.cells #[.int .i64 0, .int .i64 0, .string ⟨#[]⟩, .int .i64 0, .string ⟨#[]⟩, .slice none 0 0, .slice none 0 0, .slice none 0 0] 27)) (by simp; omega)
  have hR6 := lt_of_heap R6
  obtain ⟨⟨u0, u1, u2, u3, u4, u5, u6, u7⟩, z0, z1, z2, z3, z4, z5, z6, z7⟩ := cells8 R6
  go_simp
  refine hK3.out _ _ ?hS1050 (fun hHeld => ?hq1050)
  case hS1050 => exact M6.2.1
  clear hK3 K3
  (try simp only [Act.put, List.setIfInBounds_toArray, List.set_cons_zero, List.set_cons_succ])
  refine held_step (i := 4) rfl (by kernel_rfl) (fun K4 hK4 => ?hr1051)
  go_simp
  refine hK4.out _ _ ?hS1051 (fun hHeld => ?hq1051)
  case hS1051 => exact (cells4 (heap_old Q6 _)).2.1
  clear hK4 K4
  (try simp only [Act.put, List.setIfInBounds_toArray, List.set_cons_zero, List.set_cons_succ])
  refine held_take (i := 5) (v := ?v1052) rfl (by kernel_rfl) (by kernel_rfl) (by kernel_rfl) (fun _ _ _ h => h) (Or.inl ⟨by rfl, ?hy1052⟩) (by assumption) ?hr1052
  case hy1052 =>
   intro w' hSw
   (try dsimp only at hSw)
   go_simp
   (try with_reducible rfl)
  (try simp only [Act.put, List.setIfInBounds_toArray, List.set_cons_zero, List.set_cons_succ])
  refine wpAnyH_done (by kernel_rfl) ?hr1053 _
  refine thenLast_run rfl ?hq1053
  go_simp
  refine hK.out _ _ ?hs1053
  clear hK K
  have f6 : Fr [P] (x5.alloc (.cells #[.int .i64 0, .int .i64 0, .string ⟨#[]⟩, .int .i64 0, .string ⟨#[]⟩, .slice none 0 0, .slice none 0 0, .slice none 0 0] 27)) x6 := ((Fr.refl [P] _).drew).trans f6
  have hs6 := f6.size
  have hsz : (x5.alloc (.cells #[.int .i64 0, .int .i64 0, .string ⟨#[]⟩, .int .i64 0, .string ⟨#[]⟩, .slice none 0 0, .slice none 0 0, .slice none 0 0] 27)).heap.size = x5.heap.size + 1 := by simp
  clear u0 u1 u2 u3 u4 u5 u6 u7 z0 z1 z2 z3 z4 z5 z6 z7
  have fs := st8_fr x6 x5.heap.size (.int .i64 11) (.int .i64 t.at') (.string ⟨#[]⟩) (.int .i64 0) (.string ⟨#[]⟩) (.slice none 0 0) (.slice (some ⟨x6.heap.size, 0, none⟩) 1 1) (.slice none 0 0)
  have hx1 := hx1.keep (ok' := fun b => B < b ∧ ¬ b = x5.heap.size ∧ ¬ b = P) (Sh.of_fr fs (fun b hb hlt => ⟨by have : (x5.alloc (.cells #[.int .i64 0, .int .i64 0, .string ⟨#[]⟩, .int .i64 0, .string ⟨#[]⟩, .slice none 0 0, .slice none 0 0, .slice none 0 0] 27)).heap.size ≤ b := hb; exact ⟨by omega, by omega, by omega⟩, by have : (x5.alloc (.cells #[.int .i64 0, .int .i64 0, .string ⟨#[]⟩, .int .i64 0, .string ⟨#[]⟩, .slice none 0 0, .slice none 0 0, .slice none 0 0] 27)).heap.size ≤ b := hb; simp; omega⟩))
  have hst := st8_size x6 x5.heap.size (.int .i64 11) (.int .i64 t.at') (.string ⟨#[]⟩) (.int .i64 0) (.string ⟨#[]⟩) (.slice none 0 0) (.slice (some ⟨x6.heap.size, 0, none⟩) 1 1) (.slice none 0 0)
  have row := RowG.lit keepsE (T := 27) (size := 8) (ok := fun b => B < b ∧ ¬ b = x5.heap.size ∧ ¬ b = P) hx1 rfl (by rw [hst]; exact ⟨by omega, by omega, by omega⟩)
  rw [hst] at row
  have q0 := heap_old (st8_heap R6 (.int .i64 11) (.int .i64 t.at') (.string ⟨#[]⟩) (.int .i64 0) (.string ⟨#[]⟩) (.slice none 0 0) (.slice (some ⟨x6.heap.size, 0, none⟩) 1 1) (.slice none 0 0)) (.cells #[.int .i64 k1, .int .i64 a1, .string ⟨nm1.toArray⟩, .int .i64 n1, .string ⟨s1.toArray⟩, .slice A51 n51 c51, .slice A61 n61 c61, .slice A71 n71 c71] 27)
  have g0 := heap_old (fs.keep (f6.keep (heap_old g0 (.cells #[.int .i64 0, .int .i64 0, .string ⟨#[]⟩, .int .i64 0, .string ⟨#[]⟩, .slice none 0 0, .slice none 0 0, .slice none 0 0] 27)) (by simp; omega)) (by simp; omega)) (.cells #[.int .i64 k1, .int .i64 a1, .string ⟨nm1.toArray⟩, .int .i64 n1, .string ⟨s1.toArray⟩, .slice A51 n51 c51, .slice A61 n61 c61, .slice A71 n71 c71] 27)
  have h0 := (hst2.frL fs (by simp; omega) (by simp; omega)).fr ((Fr.refl [] (st8 x6 x5.heap.size (.int .i64 11) (.int .i64 t.at') (.string ⟨#[]⟩) (.int .i64 0) (.string ⟨#[]⟩) (.slice none 0 0) (.slice (some ⟨x6.heap.size, 0, none⟩) 1 1) (.slice none 0 0))).alloc (.cells #[.int .i64 k1, .int .i64 a1, .string ⟨nm1.toArray⟩, .int .i64 n1, .string ⟨s1.toArray⟩, .slice A51 n51 c51, .slice A61 n61 c61, .slice A71 n71 c71] 27))
  have F := ((((F.alloc (.cells #[.int .i64 0, .int .i64 0, .string ⟨#[]⟩, .int .i64 0, .string ⟨#[]⟩, .slice none 0 0, .slice none 0 0, .slice none 0 0] 27)).trans f6).step fs (fun x hx => .inr (by simp at hx; omega))).alloc (.cells #[.int .i64 k1, .int .i64 a1, .string ⟨nm1.toArray⟩, .int .i64 n1, .string ⟨s1.toArray⟩, .slice A51 n51 c51, .slice A61 n61 c61, .slice A71 n71 c71] 27))
  have hBT : B < x5.heap.size := by omega
  unfold st8 at row q0 g0 h0 F
  clear hsz hst fs f6 hx1 hst2 Q6 M6 R6 q3 hT6 hR6 m0 m1 m2 m3 cS
  generalize ((((((((x6.setCell ⟨x5.heap.size, 0, none⟩ (.int .i64 11)).setCell ⟨x5.heap.size, 1, none⟩ (.int .i64 t.at')).setCell ⟨x5.heap.size, 2, none⟩ (.string ⟨#[]⟩)).setCell ⟨x5.heap.size, 3, none⟩ (.int .i64 0)).setCell ⟨x5.heap.size, 4, none⟩ (.string ⟨#[]⟩)).setCell ⟨x5.heap.size, 5, none⟩ (.slice none 0 0)).setCell ⟨x5.heap.size, 6, none⟩ (.slice (some ⟨x6.heap.size, 0, none⟩) 1 1)).setCell ⟨x5.heap.size, 7, none⟩ (.slice none 0 0)).alloc (.cells #[.int .i64 k1, .int .i64 a1, .string ⟨nm1.toArray⟩, .int .i64 n1, .string ⟨s1.toArray⟩, .slice A51 n51 c51, .slice A61 n61 c61, .slice A71 n71 c71] 27) = wz at *
  generalize x6.heap.size = gz at *
  generalize x5.heap.size = T at *
  go_wp2_with fail
  obtain ⟨p, hp⟩ := tok_at h0.inb
  refine (must_any [116, 104, 101, 110] P g c ts st2 p hp wz h0 HE.out).mono ?_
  rintro e y0 ⟨rfl, h0, fm⟩
  have g0 := fm.keep g0 (by simp; omega)
  have q0 := fm.keep q0 (by simp; omega)
  have F := F.trans fm
  have row := RowG.keep (ok' := fun b => B < b ∧ ¬ b = T ∧ ¬ b = P) keepsE row (Sh.of_fr fm (fun b hb hlt => ⟨hb, by simp; exact hb.2.2⟩))
  clear fm
  obtain ⟨i0, hi, hz0, hz1, hz2⟩ := info_parts infoExpr
  have HI := Lib.hid hi
  have HZ0 := Lib.hid hz0
  have HZ1 := Lib.hid hz1
  have HZ2 := Lib.hid hz2
  clear hi hz0 hz1 hz2
  have hle1 := hr1.le
  simp only at hle1
  have hle2 := mustS_le p st2 [116, 104, 101, 110]
  have cS := fun W hW => Lib.hid (IH.out.item P g c (mustS p st2 [116, 104, 101, 110]) W hW (by have := HN.out; have := h0.inb; omega))
  obtain ⟨⟨l0, l1, l2, l3, l4, l5, l6, l7⟩, _⟩ := cells8 q0
  have hTwr := lt_of_heap q0
  have ROWH := Lib.hid row
  clear row
  go_wp2_with fail
  refine wp_region_last8 (fun w' => w'.cell? ⟨T, 6, none⟩ = some (.slice (some ⟨gz, 0, none⟩) 1 1)) (by kernel_rfl) (by kernel_rfl) ?hS1054_2 (fun K hK hHeld => ?hr1054_2)
  case hS1054_2 => go_keep
  refine held_take (i := 0) (v := ?v1055_2) rfl (by kernel_rfl) (by kernel_rfl) (by kernel_rfl) (fun _ _ _ h => h) (Or.inl ⟨by rfl, ?hy1055_2⟩) (by assumption) ?hr1055_2
  case hy1055_2 =>
   intro w' hSw
   (try dsimp only at hSw)
   go_simp
   (try with_reducible rfl)
  (try simp only [Act.put, List.setIfInBounds_toArray, List.set_cons_zero, List.set_cons_succ])
  refine held_take (i := 1) (v := ?v1056_2) rfl (by kernel_rfl) (by kernel_rfl) (by kernel_rfl) (fun _ _ _ h => h) (Or.inl ⟨by rfl, ?hy1056_2⟩) (by assumption) ?hr1056_2
  case hy1056_2 =>
   intro w' hSw
   (try dsimp only at hSw)
   go_simp
   (try with_reducible rfl)
  (try simp only [Act.put, List.setIfInBounds_toArray, List.set_cons_zero, List.set_cons_succ])
  refine held_take (i := 2) (v := ?v1057_2) rfl (by kernel_rfl) (by kernel_rfl) (by kernel_rfl) (fun _ _ _ h => h) (Or.inl ⟨by rfl, ?hy1057_2⟩) (by assumption) ?hr1057_2
  case hy1057_2 =>
   intro w' hSw
   (try dsimp only at hSw)
   go_simp
   (try with_reducible rfl)
  (try simp only [Act.put, List.setIfInBounds_toArray, List.set_cons_zero, List.set_cons_succ])
  refine held_step (i := 3) rfl (by kernel_rfl) (fun K3 hK3 => ?hr1058_2)
  go_simp
  refine ((cS _ (h0.fr (Fr.refl [] y0).drew)).out).mono ?_
  rintro e x8 ⟨k2, a2, nm2, n2, s2, ls2, args2, arms2, A52, n52, c52, A62, n62, c62, A72, n72, c72, st5, rfl, hx2, hr2, hst5, f8⟩
  have hst := hst5
  have Q8 := f8.keep (w := y0.drew) q0 (by simp; omega)
  have hT8 := lt_of_heap Q8
  have ROW9 := RowG.keep (w' := x8.alloc (.cells #[.int .i64 k2, .int .i64 a2, .string ⟨nm2.toArray⟩, .int .i64 n2, .string ⟨s2.toArray⟩, .slice A52 n52 c52, .slice A62 n62 c62, .slice A72 n72 c72] 27)) (ok' := fun b => B < b ∧ ¬ b = T ∧ ¬ b = P) keepsE ROWH.out (Sh.of_fr (((Fr.refl [P] y0).drew.trans f8).alloc _) (fun b hb hlt => ⟨hb, by simp; exact hb.2.2⟩))
  go_simp
  refine hK3.out _ _ ?hS1058_2 (fun hHeld => ?hq1058_2)
  case hS1058_2 => exact (cells8 Q8).1.2.2.2.2.2.2.1
  clear hK3 K3
  (try simp only [Act.put, List.setIfInBounds_toArray, List.set_cons_zero, List.set_cons_succ])
  refine held_step (i := 4) rfl (by kernel_rfl) (fun K4 hK4 => ?hr1059_2)
  go_simp
  refine hK4.out _ _ ?hS1059_2 (fun hHeld => ?hq1059_2)
  case hS1059_2 => exact cell_of (heap_old Q8 _) 6
  clear hK4 K4
  (try simp only [Act.put, List.setIfInBounds_toArray, List.set_cons_zero, List.set_cons_succ])
  refine held_step (i := 5) rfl (by kernel_rfl) (fun K5 hK5 => ?hr1060_2)
  refine step_append_fp (by rfl) _ _ 24 (by rfl) 27 i0 _ 8 128 Tryz.underlying24 HI.out HZ0.out HZ1.out HZ2.out rfl (by decide) (.slice (some ⟨gz, 0, none⟩) 1 1) 1 (flatN (fun _ => [.int .i64 k1, .int .i64 a1, .string ⟨nm1.toArray⟩, .int .i64 n1, .string ⟨s1.toArray⟩, .slice A51 n51 c51, .slice A61 n61 c61, .slice A71 n71 c71]) 1) (by rfl) ROW9.own ⟨x8.heap.size, 0, none⟩ 1 1 [.int .i64 k2, .int .i64 a2, .string ⟨nm2.toArray⟩, .int .i64 n2, .string ⟨s2.toArray⟩, .slice A52 n52 c52, .slice A62 n62 c62, .slice A72 n72 c72] (by rfl) rfl (World.news_of_block (heap_new x8 _)) (by simp [Value.oneCell']) (by decide) (by decide) ?_
  intro v9 w9 hown9 hgrow9 hfp9
  obtain ⟨g9, cp9, hv9⟩ : ∃ g cap, v9 = .slice (some ⟨g, 0, none⟩) (2) cap := own_form hown9
  subst hv9
  have Q9 := (hgrow9.block T (lt_of_heap (heap_old Q8 (.cells #[.int .i64 k2, .int .i64 a2, .string ⟨nm2.toArray⟩, .int .i64 n2, .string ⟨s2.toArray⟩, .slice A52 n52 c52, .slice A62 n62 c62, .slice A72 n72 c72] 27))) (fun e => (ROWH.out.blk T e.symm).2.1 rfl)).trans (heap_old Q8 (.cells #[.int .i64 k2, .int .i64 a2, .string ⟨nm2.toArray⟩, .int .i64 n2, .string ⟨s2.toArray⟩, .slice A52 n52 c52, .slice A62 n62 c62, .slice A72 n72 c72] 27))
  have hT9 := lt_of_heap Q9
  obtain ⟨⟨u0, u1, u2, u3, u4, u5, u6, u7⟩, z0, z1, z2, z3, z4, z5, z6, z7⟩ := cells8 Q9
  refine hK5.out _ _ ?hS1060_2 (fun hHeld => ?hq1060_2)
  case hS1060_2 => exact u6
  clear hK5 K5
  (try simp only [Act.put, List.setIfInBounds_toArray, List.set_cons_zero, List.set_cons_succ])
  refine held_take (i := 6) (v := ?v1061_2) rfl (by kernel_rfl) (by kernel_rfl) (by kernel_rfl) (fun _ _ _ h => h) (Or.inl ⟨by rfl, ?hy1061_2⟩) (by assumption) ?hr1061_2
  case hy1061_2 =>
   intro w' hSw
   (try dsimp only at hSw)
   go_simp
   (try with_reducible rfl)
  (try simp only [Act.put, List.setIfInBounds_toArray, List.set_cons_zero, List.set_cons_succ])
  refine wpAnyH_done (by kernel_rfl) ?hr1062_2 _
  refine thenLast_run rfl ?hq1062_2
  go_simp
  refine hK.out _ _ ?hs1062_2
  clear hK K
  clear l0 l1 l2 l3 l4 l5 l6 l7 u0 u1 u2 u3 u4 u5 u6 u7 z0 z1 z2 z3 z4 z5 z6 z7
  have f8 : Fr [P] y0 x8 := ((Fr.refl [P] y0).drew).trans f8
  have row := ROWH.out
  obtain ⟨F, g0, q0, h0, row, hsh, hnew, hsz⟩ := app_after (fld := 6) (size := 8) keepsE f8 hx2 rfl hst g0 q0 row F (by omega) (by omega) (by omega) (by omega) (by omega) (by omega) (by omega) hown9 hgrow9 hfp9 (VV' := #[.int .i64 11, .int .i64 t.at', .string ⟨#[]⟩, .int .i64 0, .string ⟨#[]⟩, .slice none 0 0, .slice (some ⟨g9, 0, none⟩) 2 cp9, .slice none 0 0]) rfl
  clear ROWH ROW9 Q8 Q9 hown9 hgrow9 hfp9 f8 hst hT8 hT9 hTwr
  generalize w9.setCell ⟨T, 6, none⟩ (.slice (some ⟨g9, 0, none⟩) 2 cp9) = y1 at *
  clear hsh hnew hsz cS
  go_wp2_with fail
  obtain ⟨q, hq⟩ := tok_at h0.inb
  refine (must_any [101, 108, 115, 101] P g c ts st5 q hq y1 h0 HE.out).mono ?_
  rintro e y2 ⟨rfl, h0, fm⟩
  have g0 := fm.keep g0 (by simp; omega)
  have q0 := fm.keep q0 (by simp; omega)
  have F := F.trans fm
  have row := RowG.keep (ok' := fun b => B < b ∧ ¬ b = T ∧ ¬ b = P) keepsE row (Sh.of_fr fm (fun b hb hlt => ⟨hb, by simp; exact hb.2.2⟩))
  clear fm
  have hle3 := hr2.le
  have hle4 := mustS_le q st5 [101, 108, 115, 101]
  have cS := fun W hW => Lib.hid (IH.out.item P g c (mustS q st5 [101, 108, 115, 101]) W hW (by have := HN.out; have := h0.inb; omega))
  obtain ⟨⟨l0, l1, l2, l3, l4, l5, l6, l7⟩, _⟩ := cells8 q0
  have hTwr := lt_of_heap q0
  have ROWH := Lib.hid row
  clear row
  go_wp2_with fail
  refine wp_region_last8 (fun w' => w'.cell? ⟨T, 6, none⟩ = some (.slice (some ⟨g9, 0, none⟩) 2 cp9)) (by kernel_rfl) (by kernel_rfl) ?hS1063_2 (fun K hK hHeld => ?hr1063_2)
  case hS1063_2 => go_keep
  refine held_take (i := 0) (v := ?v1064_2) rfl (by kernel_rfl) (by kernel_rfl) (by kernel_rfl) (fun _ _ _ h => h) (Or.inl ⟨by rfl, ?hy1064_2⟩) (by assumption) ?hr1064_2
  case hy1064_2 =>
   intro w' hSw
   (try dsimp only at hSw)
   go_simp
   (try with_reducible rfl)
  (try simp only [Act.put, List.setIfInBounds_toArray, List.set_cons_zero, List.set_cons_succ])
  refine held_take (i := 1) (v := ?v1065_2) rfl (by kernel_rfl) (by kernel_rfl) (by kernel_rfl) (fun _ _ _ h => h) (Or.inl ⟨by rfl, ?hy1065_2⟩) (by assumption) ?hr1065_2
  case hy1065_2 =>
   intro w' hSw
   (try dsimp only at hSw)
   go_simp
   (try with_reducible rfl)
  (try simp only [Act.put, List.setIfInBounds_toArray, List.set_cons_zero, List.set_cons_succ])
  refine held_take (i := 2) (v := ?v1066_2) rfl (by kernel_rfl) (by kernel_rfl) (by kernel_rfl) (fun _ _ _ h => h) (Or.inl ⟨by rfl, ?hy1066_2⟩) (by assumption) ?hr1066_2
  case hy1066_2 =>
   intro w' hSw
   (try dsimp only at hSw)
   go_simp
   (try with_reducible rfl)
  (try simp only [Act.put, List.setIfInBounds_toArray, List.set_cons_zero, List.set_cons_succ])
  refine held_step (i := 3) rfl (by kernel_rfl) (fun K3 hK3 => ?hr1067_2)
  go_simp
  refine ((cS _ (h0.fr (Fr.refl [] y2).drew)).out).mono ?_
  rintro e x8 ⟨k3, a3, nm3, n3, s3, ls3, args3, arms3, A53, n53, c53, A63, n63, c63, A73, n73, c73, st7, rfl, hx3, hr3, hst7, f8⟩
  have hst := hst7
  have Q8 := f8.keep (w := y2.drew) q0 (by simp; omega)
  have hT8 := lt_of_heap Q8
  have ROW9 := RowG.keep (w' := x8.alloc (.cells #[.int .i64 k3, .int .i64 a3, .string ⟨nm3.toArray⟩, .int .i64 n3, .string ⟨s3.toArray⟩, .slice A53 n53 c53, .slice A63 n63 c63, .slice A73 n73 c73] 27)) (ok' := fun b => B < b ∧ ¬ b = T ∧ ¬ b = P) keepsE ROWH.out (Sh.of_fr (((Fr.refl [P] y2).drew.trans f8).alloc _) (fun b hb hlt => ⟨hb, by simp; exact hb.2.2⟩))
  go_simp
  refine hK3.out _ _ ?hS1067_2 (fun hHeld => ?hq1067_2)
  case hS1067_2 => exact (cells8 Q8).1.2.2.2.2.2.2.1
  clear hK3 K3
  (try simp only [Act.put, List.setIfInBounds_toArray, List.set_cons_zero, List.set_cons_succ])
  refine held_step (i := 4) rfl (by kernel_rfl) (fun K4 hK4 => ?hr1068_2)
  go_simp
  refine hK4.out _ _ ?hS1068_2 (fun hHeld => ?hq1068_2)
  case hS1068_2 => exact cell_of (heap_old Q8 _) 6
  clear hK4 K4
  (try simp only [Act.put, List.setIfInBounds_toArray, List.set_cons_zero, List.set_cons_succ])
  refine held_step (i := 5) rfl (by kernel_rfl) (fun K5 hK5 => ?hr1069_2)
  refine step_append_fp (by rfl) _ _ 24 (by rfl) 27 i0 _ 8 128 Tryz.underlying24 HI.out HZ0.out HZ1.out HZ2.out rfl (by decide) (.slice (some ⟨g9, 0, none⟩) 2 cp9) 2 (flatN (fun i => if i = [(.mk k1 a1 nm1 n1 s1 ls1 args1 arms1)].length then [.int .i64 k2, .int .i64 a2, .string ⟨nm2.toArray⟩, .int .i64 n2, .string ⟨s2.toArray⟩, .slice A52 n52 c52, .slice A62 n62 c62, .slice A72 n72 c72] else [.int .i64 k1, .int .i64 a1, .string ⟨nm1.toArray⟩, .int .i64 n1, .string ⟨s1.toArray⟩, .slice A51 n51 c51, .slice A61 n61 c61, .slice A71 n71 c71]) 2) (by rfl) ROW9.own ⟨x8.heap.size, 0, none⟩ 1 1 [.int .i64 k3, .int .i64 a3, .string ⟨nm3.toArray⟩, .int .i64 n3, .string ⟨s3.toArray⟩, .slice A53 n53 c53, .slice A63 n63 c63, .slice A73 n73 c73] (by rfl) rfl (World.news_of_block (heap_new x8 _)) (by simp [Value.oneCell']) (by decide) (by decide) ?_
  intro v9 w9 hown9 hgrow9 hfp9
  obtain ⟨g8, cp8, hv9⟩ : ∃ g cap, v9 = .slice (some ⟨g, 0, none⟩) (3) cap := own_form hown9
  subst hv9
  have Q9 := (hgrow9.block T (lt_of_heap (heap_old Q8 (.cells #[.int .i64 k3, .int .i64 a3, .string ⟨nm3.toArray⟩, .int .i64 n3, .string ⟨s3.toArray⟩, .slice A53 n53 c53, .slice A63 n63 c63, .slice A73 n73 c73] 27))) (fun e => (ROWH.out.blk T e.symm).2.1 rfl)).trans (heap_old Q8 (.cells #[.int .i64 k3, .int .i64 a3, .string ⟨nm3.toArray⟩, .int .i64 n3, .string ⟨s3.toArray⟩, .slice A53 n53 c53, .slice A63 n63 c63, .slice A73 n73 c73] 27))
  have hT9 := lt_of_heap Q9
  obtain ⟨⟨u0, u1, u2, u3, u4, u5, u6, u7⟩, z0, z1, z2, z3, z4, z5, z6, z7⟩ := cells8 Q9
  refine hK5.out _ _ ?hS1069_2 (fun hHeld => ?hq1069_2)
  case hS1069_2 => exact u6
  clear hK5 K5
  (try simp only [Act.put, List.setIfInBounds_toArray, List.set_cons_zero, List.set_cons_succ])
  refine held_take (i := 6) (v := ?v1070_2) rfl (by kernel_rfl) (by kernel_rfl) (by kernel_rfl) (fun _ _ _ h => h) (Or.inl ⟨by rfl, ?hy1070_2⟩) (by assumption) ?hr1070_2
  case hy1070_2 =>
   intro w' hSw
   (try dsimp only at hSw)
   go_simp
   (try with_reducible rfl)
  (try simp only [Act.put, List.setIfInBounds_toArray, List.set_cons_zero, List.set_cons_succ])
  refine wpAnyH_done (by kernel_rfl) ?hr1071_2 _
  refine thenLast_run rfl ?hq1071_2
  go_simp
  refine hK.out _ _ ?hs1071_2
  clear hK K
  clear l0 l1 l2 l3 l4 l5 l6 l7 u0 u1 u2 u3 u4 u5 u6 u7 z0 z1 z2 z3 z4 z5 z6 z7
  have f8 : Fr [P] y2 x8 := ((Fr.refl [P] y2).drew).trans f8
  have row := ROWH.out
  obtain ⟨F, g0, q0, h0, row, hsh, hnew, hsz⟩ := app_after (fld := 6) (size := 8) keepsE f8 hx3 rfl hst g0 q0 row F (by omega) (by omega) (by omega) (by omega) (by omega) (by omega) (by omega) hown9 hgrow9 hfp9 (VV' := #[.int .i64 11, .int .i64 t.at', .string ⟨#[]⟩, .int .i64 0, .string ⟨#[]⟩, .slice none 0 0, .slice (some ⟨g8, 0, none⟩) 3 cp8, .slice none 0 0]) rfl
  clear ROWH ROW9 Q8 Q9 hown9 hgrow9 hfp9 f8 hst hT8 hT9 hTwr
  generalize w9.setCell ⟨T, 6, none⟩ (.slice (some ⟨g8, 0, none⟩) 3 cp8) = y3 at *
  clear hsh hnew hsz cS
  have hBT2 := lt_of_heap g0
  have row0 := RowG.keep (ok' := fun b => B < b) keepsE row (Sh.of_fr (Fr.refl [] y3) (fun b hb hlt => ⟨hb.1, fun x => by cases x⟩))
  obtain ⟨⟨l0, l1, l2, l3, l4, l5, l6, l7⟩, _⟩ := cells8 q0
  obtain ⟨⟨u0, u1, u2, u3, u4, u5, u6, u7⟩, z0, z1, z2, z3, z4, z5, z6, z7⟩ := cells8 g0
  clear row
  have HG := Lib.hid (st8_heap g0 (.int .i64 11) (.int .i64 t.at') (.string ⟨#[]⟩) (.int .i64 0) (.string ⟨#[]⟩) (.slice none 0 0) (.slice (some ⟨g8, 0, none⟩) 3 cp8) (.slice none 0 0))
  have HF := Lib.hid ((F).step (st8_fr y3 B (.int .i64 11) (.int .i64 t.at') (.string ⟨#[]⟩) (.int .i64 0) (.string ⟨#[]⟩) (.slice none 0 0) (.slice (some ⟨g8, 0, none⟩) 3 cp8) (.slice none 0 0)) (fun x hx => .inr (by simp at hx; omega)))
  have HP := Lib.hid ((h0).frL (st8_fr y3 B (.int .i64 11) (.int .i64 t.at') (.string ⟨#[]⟩) (.int .i64 0) (.string ⟨#[]⟩) (.slice none 0 0) (.slice (some ⟨g8, 0, none⟩) 3 cp8) (.slice none 0 0)) (by simpa using nP) (by simpa using ng))
  have HR := Lib.hid (RowG.keep (ok' := fun b => B ≤ b) keepsE row0 (Sh.of_fr (st8_fr y3 B (.int .i64 11) (.int .i64 t.at') (.string ⟨#[]⟩) (.int .i64 0) (.string ⟨#[]⟩) (.slice none 0 0) (.slice (some ⟨g8, 0, none⟩) 3 cp8) (.slice none 0 0)) (fun b hb hlt => ⟨by omega, by simp; omega⟩)))
  unfold st8 at HG HF HP HR
  go_wp2_with fail
  generalize (((((((y3.setCell ⟨B, 0, none⟩ (.int .i64 11)).setCell ⟨B, 1, none⟩ (.int .i64 t.at')).setCell ⟨B, 2, none⟩ (.string ⟨#[]⟩)).setCell ⟨B, 3, none⟩ (.int .i64 0)).setCell ⟨B, 4, none⟩ (.string ⟨#[]⟩)).setCell ⟨B, 5, none⟩ (.slice none 0 0)).setCell ⟨B, 6, none⟩ (.slice (some ⟨g8, 0, none⟩) 3 cp8)).setCell ⟨B, 7, none⟩ (.slice none 0 0) = Z at HG HF HP HR ⊢
  obtain ⟨⟨d0, d1, d2, d3, d4, d5, d6, d7⟩, _⟩ := cells8 HG.out
  have hxx := ExprAt.of_rows (k := 11) (a := t.at') (nm := []) (n := 0) (s := []) (c5 := fun _ => []) (c7 := fun _ => []) RowG.nil_ HR.out RowG.nil_
  refine bodyPost_ret (v := .agg #[.int .i64 11, .int .i64 t.at', .string ⟨#[]⟩, .int .i64 0, .string ⟨#[]⟩, .slice none 0 0, .slice (some ⟨g8, 0, none⟩) 3 cp8, .slice none 0 0]) ?_ rfl ?_
  ·simp [results, Tryz.f33, go_sem, d0, d1, d2, d3, d4, d5, d6, d7]
  ·exact ⟨_, _, _, _, _, _, _, _, _, _, _, _, _, _, _, _, _, _, rfl, by rw [hB]; exact hxx, .look HT.out (.may_no HT.out HB0.out (.els (.isC_ HT.out HB1.out (.els (.may_no HT.out HB2.out (.els (.may_no HT.out HB3.out (.els (.may_yes HT.out HB4.out (.thn (.callE hr1 (.must_ hp (.callE hr2 (.must_ hq (.callE hr3 .retE))))))))))))))), HP.out, HF.out⟩
end Go.Proofs.YtpjkfeehgookkaaGreatDoor
