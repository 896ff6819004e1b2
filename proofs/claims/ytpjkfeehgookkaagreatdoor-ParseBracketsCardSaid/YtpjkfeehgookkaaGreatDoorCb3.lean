/- A part of the proof: P6, P7, P8, Rl, P9, Pa, Pb, Pc, Pd, Pf, Pi, Pj, Pk, Ph. -/
import Derived.Deep.DrawnRows
import Derived.Deep.RegionHeld3
import Derived.Deep.AppendLies
import Derived.Test.YtpjkfeehgookkaaGreatDoorCb2
namespace Go.Proofs.YtpjkfeehgookkaaGreatDoor
open Go.RowKit
attribute [local go_sem ↓] Go.wp_at_zero Go.wp_at_succ
set_option maxHeartbeats 2000000 in
set_option maxRecDepth 100000 in
theorem and_step (ts : List Tok) (hE : EndOk ts) (N : Nat) (ih : AllE ts N) : GE ts (N + 1) 10 .and 86 := by
 intro P g c st w h hm
 have H := Lib.hid h
 have hP := lt_of_heap h.blk
 have hgl := h.lt
 have hin := h.inb
 have HN := Lib.hid hm
 have HE := Lib.hid hE
 have IH := Lib.hid ih
 clear h hm hE ih
 go_enter Tryz.func86, Tryz.ntmps86
 go_wp2_with fail
 have f0 : Fr [] w (w.alloc (.cells #[.int .i64 0, .int .i64 0, .string ⟨#[]⟩, .int .i64 0, .string ⟨#[]⟩, .slice none 0 0, .slice none 0 0, .slice none 0 0] 27)) := (Fr.refl [] w).alloc _
 have g0 := heap_new w (.cells #[.int .i64 0, .int .i64 0, .string ⟨#[]⟩, .int .i64 0, .string ⟨#[]⟩, .slice none 0 0, .slice none 0 0, .slice none 0 0] 27)
 generalize w.alloc (.cells #[.int .i64 0, .int .i64 0, .string ⟨#[]⟩, .int .i64 0, .string ⟨#[]⟩, .slice none 0 0, .slice none 0 0, .slice none 0 0] 27) = w1 at *
 generalize hB : w.heap.size = B at *
 have hB1 := lt_of_heap g0
 have nP : ¬ P = B := by omega
 have nB : ¬ B = P := by omega
 have ng : ¬ g = B := by omega
 refine (IH.out.cmp P g c st w1 (H.out.fr f0) (by have := HN.out; omega)).mono ?_
 rintro e x1 ⟨k1, a1, nm1, n1, s1, ls1, args1, arms1, A51, n51, c51, A61, n61, c61, A71, n71, c71, st1, rfl, hx1, hr1, hst1, f1⟩
 have g0 := f1.keep g0 (by simpa using nB)
 have hs1 := f1.size
 have F1 : Fr [P] w x1 := (f0.mono (fun x hx => by cases hx)).trans f1
 go_wp2_with fail
 have q1 := heap_new x1 (.cells #[.int .i64 k1, .int .i64 a1, .string ⟨nm1.toArray⟩, .int .i64 n1, .string ⟨s1.toArray⟩, .slice A51 n51 c51, .slice A61 n61 c61, .slice A71 n71 c71] 27)
 have fb1 : Fr [] x1 (x1.alloc (.cells #[.int .i64 k1, .int .i64 a1, .string ⟨nm1.toArray⟩, .int .i64 n1, .string ⟨s1.toArray⟩, .slice A51 n51 c51, .slice A61 n61 c61, .slice A71 n71 c71] 27)) := (Fr.refl [] x1).alloc _
 generalize hY1 : x1.alloc (.cells #[.int .i64 k1, .int .i64 a1, .string ⟨nm1.toArray⟩, .int .i64 n1, .string ⟨s1.toArray⟩, .slice A51 n51 c51, .slice A61 n61 c61, .slice A71 n71 c71] 27) = x2 at *
 have hT1 := lt_of_heap q1
 generalize hTT1 : x1.heap.size = T3 at *
 have g0 := fb1.keep g0 (fun x => by cases x)
 have h2 := hst1.fr fb1
 have F2 := F1.trans0 fb1
 have hx1 := hx1.keep (ok' := fun b => B < b ∧ ¬ b = T3) (Sh.of_fr fb1 (fun b hb hlt => ⟨⟨by omega, by omega⟩, fun x => by cases x⟩))
 obtain ⟨t, ht⟩ := tok_at hst1.inb
 refine (now_any P g c ts st1 t ht x2 h2 HE.out).mono ?_
 rintro e x3 ⟨rfl, f3⟩
 go_wp2_with fail
 have q4 := heap_new x3 (.cells #[.int .i64 t.k, .int .i64 t.at', .string ⟨t.text.toArray⟩, .int .i64 t.n] 46)
 have fb4 : Fr [] x3 (x3.alloc (.cells #[.int .i64 t.k, .int .i64 t.at', .string ⟨t.text.toArray⟩, .int .i64 t.n] 46)) := (Fr.refl [] x3).alloc _
 generalize hY4 : x3.alloc (.cells #[.int .i64 t.k, .int .i64 t.at', .string ⟨t.text.toArray⟩, .int .i64 t.n] 46) = x4 at *
 have hT4 := lt_of_heap q4
 generalize hTT4 : x3.heap.size = T4 at *
 have f4 := f3.trans fb4
 have g0 := f4.keep g0 (fun x => by cases x)
 have q1 := f4.keep q1 (fun x => by cases x)
 have h4 := h2.fr f4
 have F4 := F2.trans0 f4
 have hs3 := f3.size
 have hx1 := hx1.keep (ok' := fun b => B < b ∧ ¬ b = T3 ∧ ¬ b = T4) (Sh.of_fr f4 (fun b hb hlt => ⟨⟨hb.1, hb.2, by omega⟩, fun x => by cases x⟩))
 cases hb : isB t st1.ok [[38, 38]] with
 | false =>
  refine (may_no [38, 38] P g c ts st1 t ht hb x4 h4 HE.out).mono ?_
  rintro e x5 ⟨rfl, f5⟩
  have g0 := f5.keep g0 (fun x => by cases x)
  obtain ⟨⟨l0, l1, l2, l3, l4, l5, l6, l7⟩, _⟩ := cells8 (f5.keep q1 (fun x => by cases x))
  have h5 := h4.fr f5
  have hx1 := hx1.keep (ok' := fun b => B < b) (Sh.of_fr f5 (fun b hb hlt => ⟨hb.1, fun x => by cases x⟩))
  have HG := Lib.hid (st8_heap g0 (.int .i64 k1) (.int .i64 a1) (.string ⟨nm1.toArray⟩) (.int .i64 n1) (.string ⟨s1.toArray⟩) (.slice A51 n51 c51) (.slice A61 n61 c61) (.slice A71 n71 c71))
  have HF := Lib.hid ((F4.trans0 f5).step (st8_fr x5 B (.int .i64 k1) (.int .i64 a1) (.string ⟨nm1.toArray⟩) (.int .i64 n1) (.string ⟨s1.toArray⟩) (.slice A51 n51 c51) (.slice A61 n61 c61) (.slice A71 n71 c71)) (fun x hx => .inr (by simp at hx; omega)))
  have HP := Lib.hid ((h5).frL (st8_fr x5 B (.int .i64 k1) (.int .i64 a1) (.string ⟨nm1.toArray⟩) (.int .i64 n1) (.string ⟨s1.toArray⟩) (.slice A51 n51 c51) (.slice A61 n61 c61) (.slice A71 n71 c71)) (by simpa using nP) (by simpa using ng))
  have HX : Hid (ExprAt (st8 x5 B (.int .i64 k1) (.int .i64 a1) (.string ⟨nm1.toArray⟩) (.int .i64 n1) (.string ⟨s1.toArray⟩) (.slice A51 n51 c51) (.slice A61 n61 c61) (.slice A71 n71 c71)) (fun b => B ≤ b) (.mk k1 a1 nm1 n1 s1 ls1 args1 arms1) [.int .i64 k1, .int .i64 a1, .string ⟨nm1.toArray⟩, .int .i64 n1, .string ⟨s1.toArray⟩, .slice A51 n51 c51, .slice A61 n61 c61, .slice A71 n71 c71]) := Lib.hid ((hx1).keep (Sh.of_fr (st8_fr x5 B (.int .i64 k1) (.int .i64 a1) (.string ⟨nm1.toArray⟩) (.int .i64 n1) (.string ⟨s1.toArray⟩) (.slice A51 n51 c51) (.slice A61 n61 c61) (.slice A71 n71 c71)) (fun b hb hlt => ⟨by omega, by simp; omega⟩)))
  unfold st8 at HG HF HP HX
  obtain ⟨⟨u0, u1, u2, u3, u4, u5, u6, u7⟩, z0, z1, z2, z3, z4, z5, z6, z7⟩ := cells8 g0
  go_wp2_with fail
  generalize (((((((x5.setCell ⟨B, 0, none⟩ (.int .i64 k1)).setCell ⟨B, 1, none⟩ (.int .i64 a1)).setCell ⟨B, 2, none⟩ (.string ⟨nm1.toArray⟩)).setCell ⟨B, 3, none⟩ (.int .i64 n1)).setCell ⟨B, 4, none⟩ (.string ⟨s1.toArray⟩)).setCell ⟨B, 5, none⟩ (.slice A51 n51 c51)).setCell ⟨B, 6, none⟩ (.slice A61 n61 c61)).setCell ⟨B, 7, none⟩ (.slice A71 n71 c71) = Z at HG HF HP HX ⊢
  obtain ⟨⟨d0, d1, d2, d3, d4, d5, d6, d7⟩, _⟩ := cells8 HG.out
  refine bodyPost_ret (v := .agg #[.int .i64 k1, .int .i64 a1, .string ⟨nm1.toArray⟩, .int .i64 n1, .string ⟨s1.toArray⟩, .slice A51 n51 c51, .slice A61 n61 c61, .slice A71 n71 c71]) ?_ rfl ?_
  ·simp [results, Tryz.f86, go_sem, d0, d1, d2, d3, d4, d5, d6, d7]
  ·exact ⟨_, _, _, _, _, _, _, _, _, _, _, _, _, _, _, _, _, _, rfl, by rw [hB]; exact HX.out, .callE hr1 (.look ht (.may_no ht hb .retE)), HP.out, HF.out⟩
 | true =>
  refine (may_yes [38, 38] P g c ts st1 t ht hb x4 h4 HE.out).mono ?_
  rintro e x5 ⟨rfl, h5, f5⟩
  have g0 := f5.keep g0 (by simpa using nB)
  have q1 := f5.keep q1 (by simp; omega)
  have q4 := f5.keep q4 (by simp; omega)
  have hs5 := f5.size
  have F5 := F4.trans f5
  have hx1 := hx1.keep (ok' := fun b => B < b ∧ ¬ b = T3 ∧ ¬ b = T4 ∧ ¬ b = P ∧ b < x5.heap.size) (Sh.of_fr f5 (fun b hb hlt => ⟨⟨hb.1, hb.2.1, hb.2.2, by omega, by omega⟩, by simp; omega⟩))
  have hle := hr1.le
  obtain ⟨⟨l0, l1, l2, l3, l4, l5, l6, l7⟩, _⟩ := cells8 q1
  obtain ⟨m0, m1, m2, m3, _⟩ := cells4 q4
  have cS := fun W hW => Lib.hid (IH.out.and P g c ⟨st1.i + 1, st1.ok⟩ W hW (by have := HN.out; have := h5.inb; simp only at this ⊢; omega))
  go_wp2_with fail
  have n34 : ¬ T3 = T4 := by omega
  have n3B : ¬ T3 = B := by omega
  have nB3 : ¬ B = T3 := by omega
  have n4B : ¬ T4 = B := by omega
  have nB4 : ¬ B = T4 := by omega
  clear fb1 fb4 f1 f3 f4 h2 h4 F1 F2 F4 hst1 IH HN H
  go_region_held3 (fun w' => w'.cell? ⟨T4, 1, none⟩ = some (.int .i64 t.at') ∧ (w'.cell? ⟨T3, 0, none⟩ = some (.int .i64 k1) ∧ w'.cell? ⟨T3, 1, none⟩ = some (.int .i64 a1) ∧ w'.cell? ⟨T3, 2, none⟩ = some (.string ⟨nm1.toArray⟩) ∧ w'.cell? ⟨T3, 3, none⟩ = some (.int .i64 n1) ∧ w'.cell? ⟨T3, 4, none⟩ = some (.string ⟨s1.toArray⟩) ∧ w'.cell? ⟨T3, 5, none⟩ = some (.slice A51 n51 c51) ∧ w'.cell? ⟨T3, 6, none⟩ = some (.slice A61 n61 c61) ∧ w'.cell? ⟨T3, 7, none⟩ = some (.slice A71 n71 c71))) (first | go_keep | exact ⟨M4.2.1, M3.1⟩) ((refine (cS _ (h5.fr (Fr.refl [] x5).drew)).out.mono ?_; rintro e x6 ⟨k2, a2, nm2, n2, s2, ls2, args2, arms2, A52, n52, c52, A62, n62, c62, A72, n72, c72, st2, rfl, hx2, hr2, hst2, f6⟩; have Q1 := f6.keep (w := x5.drew) q1 (by simp; omega); have Q4 := f6.keep (w := x5.drew) q4 (by simp; omega); have hT36 := lt_of_heap Q1; have hT46 := lt_of_heap Q4; have M3 := cells8 Q1; have M4 := cells4 Q4; have G6 := f6.keep (w := x5.drew) g0 (by simpa using nB); have hB6 := lt_of_heap G6; obtain ⟨⟨u0, u1, u2, u3, u4, u5, u6, u7⟩, z0, z1, z2, z3, z4, z5, z6, z7⟩ := cells8 G6))
  clear M3 M4 Q1 Q4 u0 u1 u2 u3 u4 u5 u6 u7 z0 z1 z2 z3 z4 z5 z6 z7 l0 l1 l2 l3 l4 l5 l6 l7 m0 m1 m2 m3
  have f6 : Fr [P] x5 x6 := ((Fr.refl [P] x5).drew).trans f6
  have hx1 := hx1.keep (ok' := fun b => B < b) (Sh.of_fr f6 (fun b hb hlt => ⟨hb.1, by simp; omega⟩))
  have hx2 := hx2.keep (ok' := fun b => B < b) (Sh.of_fr (Fr.refl [] x6) (fun b hb hlt => ⟨by have : x5.heap.size ≤ b := hb; omega, fun x => by cases x⟩))
  have HG := Lib.hid (st8_heap G6 (.int .i64 21) (.int .i64 t.at') (.string ⟨#[]⟩) (.int .i64 0) (.string ⟨#[]⟩) (.slice none 0 0) (.slice (some ⟨x6.heap.size, 0, none⟩) 2 2) (.slice none 0 0))
  have HF := Lib.hid ((F5.trans f6).step (st8_fr x6 B (.int .i64 21) (.int .i64 t.at') (.string ⟨#[]⟩) (.int .i64 0) (.string ⟨#[]⟩) (.slice none 0 0) (.slice (some ⟨x6.heap.size, 0, none⟩) 2 2) (.slice none 0 0)) (fun x hx => .inr (by simp at hx; omega)))
  have HP := Lib.hid ((hst2).frL (st8_fr x6 B (.int .i64 21) (.int .i64 t.at') (.string ⟨#[]⟩) (.int .i64 0) (.string ⟨#[]⟩) (.slice none 0 0) (.slice (some ⟨x6.heap.size, 0, none⟩) 2 2) (.slice none 0 0)) (by simpa using nP) (by simpa using ng))
  have HS := Lib.hid (st8_size x6 B (.int .i64 21) (.int .i64 t.at') (.string ⟨#[]⟩) (.int .i64 0) (.string ⟨#[]⟩) (.slice none 0 0) (.slice (some ⟨x6.heap.size, 0, none⟩) 2 2) (.slice none 0 0))
  have HX1 : Hid (ExprAt (st8 x6 B (.int .i64 21) (.int .i64 t.at') (.string ⟨#[]⟩) (.int .i64 0) (.string ⟨#[]⟩) (.slice none 0 0) (.slice (some ⟨x6.heap.size, 0, none⟩) 2 2) (.slice none 0 0)) (fun b => B ≤ b) (.mk k1 a1 nm1 n1 s1 ls1 args1 arms1) [.int .i64 k1, .int .i64 a1, .string ⟨nm1.toArray⟩, .int .i64 n1, .string ⟨s1.toArray⟩, .slice A51 n51 c51, .slice A61 n61 c61, .slice A71 n71 c71]) := Lib.hid ((hx1).keep (Sh.of_fr (st8_fr x6 B (.int .i64 21) (.int .i64 t.at') (.string ⟨#[]⟩) (.int .i64 0) (.string ⟨#[]⟩) (.slice none 0 0) (.slice (some ⟨x6.heap.size, 0, none⟩) 2 2) (.slice none 0 0)) (fun b hb hlt => ⟨by omega, by simp; omega⟩)))
  have HX2 : Hid (ExprAt (st8 x6 B (.int .i64 21) (.int .i64 t.at') (.string ⟨#[]⟩) (.int .i64 0) (.string ⟨#[]⟩) (.slice none 0 0) (.slice (some ⟨x6.heap.size, 0, none⟩) 2 2) (.slice none 0 0)) (fun b => B ≤ b) (.mk k2 a2 nm2 n2 s2 ls2 args2 arms2) [.int .i64 k2, .int .i64 a2, .string ⟨nm2.toArray⟩, .int .i64 n2, .string ⟨s2.toArray⟩, .slice A52 n52 c52, .slice A62 n62 c62, .slice A72 n72 c72]) := Lib.hid ((hx2).keep (Sh.of_fr (st8_fr x6 B (.int .i64 21) (.int .i64 t.at') (.string ⟨#[]⟩) (.int .i64 0) (.string ⟨#[]⟩) (.slice none 0 0) (.slice (some ⟨x6.heap.size, 0, none⟩) 2 2) (.slice none 0 0)) (fun b hb hlt => ⟨by omega, by simp; omega⟩)))
  unfold st8 at HG HF HP HS HX1 HX2
  go_wp2_with fail
  generalize (((((((x6.setCell ⟨B, 0, none⟩ (.int .i64 21)).setCell ⟨B, 1, none⟩ (.int .i64 t.at')).setCell ⟨B, 2, none⟩ (.string ⟨#[]⟩)).setCell ⟨B, 3, none⟩ (.int .i64 0)).setCell ⟨B, 4, none⟩ (.string ⟨#[]⟩)).setCell ⟨B, 5, none⟩ (.slice none 0 0)).setCell ⟨B, 6, none⟩ (.slice (some ⟨x6.heap.size, 0, none⟩) 2 2)).setCell ⟨B, 7, none⟩ (.slice none 0 0) = Z at HG HF HP HS HX1 HX2 ⊢
  obtain ⟨⟨d0, d1, d2, d3, d4, d5, d6, d7⟩, _⟩ := cells8 (heap_old HG.out (.cells #[.int .i64 k1, .int .i64 a1, .string ⟨nm1.toArray⟩, .int .i64 n1, .string ⟨s1.toArray⟩, .slice A51 n51 c51, .slice A61 n61 c61, .slice A71 n71 c71, .int .i64 k2, .int .i64 a2, .string ⟨nm2.toArray⟩, .int .i64 n2, .string ⟨s2.toArray⟩, .slice A52 n52 c52, .slice A62 n62 c62, .slice A72 n72 c72] 27))
  have hBZ : B ≤ Z.heap.size := by have := lt_of_heap HG.out; omega
  have row := RowG.lit2 keepsE (T := 27) (size := 8) HX1.out HX2.out rfl rfl (ok := fun b => B ≤ b) hBZ
  rw [HS.out] at row
  have hxx := ExprAt.of_rows (k := 21) (a := t.at') (nm := []) (n := 0) (s := []) (c5 := fun _ => []) (c7 := fun _ => []) RowG.nil_ row RowG.nil_
  refine bodyPost_ret (v := .agg #[.int .i64 21, .int .i64 t.at', .string ⟨#[]⟩, .int .i64 0, .string ⟨#[]⟩, .slice none 0 0, .slice (some ⟨x6.heap.size, 0, none⟩) 2 2, .slice none 0 0]) ?_ rfl ?_
  ·simp [results, Tryz.f86, go_sem, d0, d1, d2, d3, d4, d5, d6, d7]
  ·exact ⟨_, _, _, _, _, _, _, _, _, _, _, _, _, _, _, _, _, _, rfl, by rw [hB]; exact hxx, .callE hr1 (.look ht (.may_yes ht hb (.callE hr2 .retE))), HP.out.fr ((Fr.refl [] Z).alloc _), HF.out.alloc _⟩
end Go.Proofs.YtpjkfeehgookkaaGreatDoor
namespace Go.Proofs.YtpjkfeehgookkaaGreatDoor
open Go.RowKit
set_option maxHeartbeats 1000000 in
set_option maxRecDepth 100000 in
theorem op_any (n : Int) (t : Tok) (A : Option Addr) (m c : Nat) (w : World) :
  Calls Tryz.prog 58 #[.int .i64 n, .agg #[.int .i64 t.k, .int .i64 t.at', .string ⟨t.text.toArray⟩, .int .i64 t.n], .slice A m c] w fun e w' =>
   e = .returned (.agg #[.int .i64 19, .int .i64 t.at', .string ⟨#[]⟩, .int .i64 n, .string ⟨#[]⟩, .slice none 0 0, .slice A m c, .slice none 0 0]) ∧ Fr [] w w' := by
 obtain ⟨tk, ta, tt, tn⟩ := t
 simp only
 go_enter Tryz.func58, Tryz.ntmps58
 go_wp2_with fail
 refine bodyPost_ret (v := .agg #[.int .i64 19, .int .i64 ta, .string ⟨#[]⟩, .int .i64 n, .string ⟨#[]⟩, .slice none 0 0, .slice A m c, .slice none 0 0]) ?_ rfl ?_
 ·simp [results, Tryz.f58, go_sem]
 ·exact ⟨rfl, ((Fr.refl [] w).alloc _).alloc _⟩
set_option maxHeartbeats 1000000 in
set_option maxRecDepth 100000 in
theorem number_any (s : List UInt8) (w : World) :
  Calls Tryz.prog 133 #[.string ⟨s.toArray⟩] w fun e w' => e = .returned (.int .i64 (numberOf s)) ∧ w = w' := by
 cases b0 : (s == [61]) with
 | true =>
  have hv : numberOf s = 7 := by rw [eq_of_beq b0]; rfl
  rw [hv]
  go_enter Tryz.func133, Tryz.ntmps133
  go_wp2_with fail
  go_ret
  exact ⟨rfl, rfl⟩
 | false =>
  cases b1 : (s == [60]) with
  | true =>
   have hv : numberOf s = 8 := by rw [eq_of_beq b1]; rfl
   rw [hv]
   go_enter Tryz.func133, Tryz.ntmps133
   go_wp2_with fail
   go_ret
   exact ⟨rfl, rfl⟩
  | false =>
   cases b2 : (s == [43]) with
   | true =>
    have hv : numberOf s = 1 := by rw [eq_of_beq b2]; rfl
    rw [hv]
    go_enter Tryz.func133, Tryz.ntmps133
    go_wp2_with fail
    go_ret
    exact ⟨rfl, rfl⟩
   | false =>
    cases b3 : (s == [45]) with
    | true =>
     have hv : numberOf s = 2 := by rw [eq_of_beq b3]; rfl
     rw [hv]
     go_enter Tryz.func133, Tryz.ntmps133
     go_wp2_with fail
     go_ret
     exact ⟨rfl, rfl⟩
    | false =>
     cases b4 : (s == [42]) with
     | true =>
      have hv : numberOf s = 3 := by rw [eq_of_beq b4]; rfl
      rw [hv]
      go_enter Tryz.func133, Tryz.ntmps133
      go_wp2_with fail
      go_ret
      exact ⟨rfl, rfl⟩
     | false =>
      cases b5 : (s == [47]) with
      | true =>
       have hv : numberOf s = 4 := by rw [eq_of_beq b5]; rfl
       rw [hv]
       go_enter Tryz.func133, Tryz.ntmps133
       go_wp2_with fail
       go_ret
       exact ⟨rfl, rfl⟩
      | false =>
       have hv : numberOf s = 5 := by unfold numberOf; rw [if_neg (beq_eq_false_iff_ne.1 b0), if_neg (beq_eq_false_iff_ne.1 b1), if_neg (beq_eq_false_iff_ne.1 b2), if_neg (beq_eq_false_iff_ne.1 b3), if_neg (beq_eq_false_iff_ne.1 b4), if_neg (beq_eq_false_iff_ne.1 b5)]
       rw [hv]
       go_enter Tryz.func133, Tryz.ntmps133
       go_wp2_with fail
       go_ret
       exact ⟨rfl, rfl⟩
set_option maxHeartbeats 1000000 in
set_option maxRecDepth 100000 in
theorem called_any (s : List UInt8) (w : World) :
  Calls Tryz.prog 157 #[.string ⟨s.toArray⟩] w fun e w' => e = .returned (.tuple #[.int .i64 (calledOf s).1, .int .i64 ((calledOf s).2 : Nat)]) ∧ w = w' := by
 cases b0 : (s == [114, 101, 102]) with
 | true =>
  have hv : calledOf s = (10, 1) := by rw [eq_of_beq b0]; rfl
  rw [hv]
  go_enter Tryz.func157, Tryz.ntmps157
  go_wp2_with fail
  go_ret2
  exact ⟨rfl, rfl⟩
 | false =>
  cases b1 : (s == [108, 101, 110]) with
  | true =>
   have hv : calledOf s = (16, 1) := by rw [eq_of_beq b1]; rfl
   rw [hv]
   go_enter Tryz.func157, Tryz.ntmps157
   go_wp2_with fail
   go_ret2
   exact ⟨rfl, rfl⟩
  | false =>
   cases b2 : (s == [115, 105, 122, 101]) with
   | true =>
    have hv : calledOf s = (17, 1) := by rw [eq_of_beq b2]; rfl
    rw [hv]
    go_enter Tryz.func157, Tryz.ntmps157
    go_wp2_with fail
    go_ret2
    exact ⟨rfl, rfl⟩
   | false =>
    cases b3 : (s == [103, 101, 116, 99]) with
    | true =>
     have hv : calledOf s = (20, 1) := by rw [eq_of_beq b3]; rfl
     rw [hv]
     go_enter Tryz.func157, Tryz.ntmps157
     go_wp2_with fail
     go_ret2
     exact ⟨rfl, rfl⟩
    | false =>
     cases b4 : (s == [112, 117, 116, 99]) with
     | true =>
      have hv : calledOf s = (21, 1) := by rw [eq_of_beq b4]; rfl
      rw [hv]
      go_enter Tryz.func157, Tryz.ntmps157
      go_wp2_with fail
      go_ret2
      exact ⟨rfl, rfl⟩
     | false =>
      cases b5 : (s == [97, 114, 114, 97, 121]) with
      | true =>
       have hv : calledOf s = (13, 2) := by rw [eq_of_beq b5]; rfl
       rw [hv]
       go_enter Tryz.func157, Tryz.ntmps157
       go_wp2_with fail
       go_ret2
       exact ⟨rfl, rfl⟩
      | false =>
       cases b6 : (s == [103, 101, 116]) with
       | true =>
        have hv : calledOf s = (14, 2) := by rw [eq_of_beq b6]; rfl
        rw [hv]
        go_enter Tryz.func157, Tryz.ntmps157
        go_wp2_with fail
        go_ret2
        exact ⟨rfl, rfl⟩
       | false =>
        cases b7 : (s == [98, 121, 116, 101]) with
        | true =>
         have hv : calledOf s = (18, 2) := by rw [eq_of_beq b7]; rfl
         rw [hv]
         go_enter Tryz.func157, Tryz.ntmps157
         go_wp2_with fail
         go_ret2
         exact ⟨rfl, rfl⟩
        | false =>
         cases b8 : (s == [99, 97, 116]) with
         | true =>
          have hv : calledOf s = (19, 2) := by rw [eq_of_beq b8]; rfl
          rw [hv]
          go_enter Tryz.func157, Tryz.ntmps157
          go_wp2_with fail
          go_ret2
          exact ⟨rfl, rfl⟩
         | false =>
          cases b9 : (s == [115, 101, 116]) with
          | true =>
           have hv : calledOf s = (15, 3) := by rw [eq_of_beq b9]; rfl
           rw [hv]
           go_enter Tryz.func157, Tryz.ntmps157
           go_wp2_with fail
           go_ret2
           exact ⟨rfl, rfl⟩
          | false =>
           have hv : calledOf s = (0, 0) := by unfold calledOf; rw [if_neg (beq_eq_false_iff_ne.1 b0), if_neg (beq_eq_false_iff_ne.1 b1), if_neg (beq_eq_false_iff_ne.1 b2), if_neg (beq_eq_false_iff_ne.1 b3), if_neg (beq_eq_false_iff_ne.1 b4), if_neg (beq_eq_false_iff_ne.1 b5), if_neg (beq_eq_false_iff_ne.1 b6), if_neg (beq_eq_false_iff_ne.1 b7), if_neg (beq_eq_false_iff_ne.1 b8), if_neg (beq_eq_false_iff_ne.1 b9)]
           rw [hv]
           go_enter Tryz.func157, Tryz.ntmps157
           go_wp2_with fail
           go_ret2
           exact ⟨rfl, rfl⟩
end Go.Proofs.YtpjkfeehgookkaaGreatDoor
namespace Go.Proofs.YtpjkfeehgookkaaGreatDoor
open Go.RowKit
attribute [local go_sem ↓] Go.wp_at_zero Go.wp_at_succ
set_option maxHeartbeats 2000000 in
set_option maxRecDepth 100000 in
theorem unary_step (ts : List Tok) (hE : EndOk ts) (N : Nat) (ih : AllE ts N) : GE ts (N + 1) 6 .unary 150 := by
 intro P g c st w h hm
 have H := Lib.hid h
 have hP := lt_of_heap h.blk
 have hgl := h.lt
 have hin := h.inb
 have HN := Lib.hid hm
 have HE := Lib.hid hE
 have IH := Lib.hid ih
 clear h hm hE ih
 go_enter Tryz.func150, Tryz.ntmps150
 go_wp2_with fail
 have f0 : Fr [] w (w.alloc (.cells #[.int .i64 0, .int .i64 0, .string ⟨#[]⟩, .int .i64 0, .string ⟨#[]⟩, .slice none 0 0, .slice none 0 0, .slice none 0 0] 27)) := (Fr.refl [] w).alloc _
 have g0 := heap_new w (.cells #[.int .i64 0, .int .i64 0, .string ⟨#[]⟩, .int .i64 0, .string ⟨#[]⟩, .slice none 0 0, .slice none 0 0, .slice none 0 0] 27)
 generalize w.alloc (.cells #[.int .i64 0, .int .i64 0, .string ⟨#[]⟩, .int .i64 0, .string ⟨#[]⟩, .slice none 0 0, .slice none 0 0, .slice none 0 0] 27) = w1 at *
 generalize hB : w.heap.size = B at *
 have hB1 := lt_of_heap g0
 have nP : ¬ P = B := by omega
 have nB : ¬ B = P := by omega
 have ng : ¬ g = B := by omega
 obtain ⟨t, ht⟩ := tok_at hin
 refine (now_any P g c ts st t ht w1 (H.out.fr f0) HE.out).mono ?_
 rintro e x3 ⟨rfl, f3⟩
 go_wp2_with fail
 have q3 := heap_new x3 (.cells #[.int .i64 t.k, .int .i64 t.at', .string ⟨t.text.toArray⟩, .int .i64 t.n] 46)
 have fb4 : Fr [] x3 (x3.alloc (.cells #[.int .i64 t.k, .int .i64 t.at', .string ⟨t.text.toArray⟩, .int .i64 t.n] 46)) := (Fr.refl [] x3).alloc _
 generalize x3.alloc (.cells #[.int .i64 t.k, .int .i64 t.at', .string ⟨t.text.toArray⟩, .int .i64 t.n] 46) = x4 at *
 have hT4 := lt_of_heap q3
 have hs3 := f3.size
 generalize x3.heap.size = T3 at *
 have f4 := (f0.trans f3).trans fb4
 have g0 := (f3.trans fb4).keep g0 (fun x => by cases x)
 have h4 := H.out.fr f4
 cases hb : isB t st.ok [[45]] with
 | true =>
  refine (may_yes [45] P g c ts st t ht hb x4 h4 HE.out).mono ?_
  rintro e x5 ⟨rfl, h5, f5⟩
  have g0 := f5.keep g0 (by simpa using nB)
  have q3 := f5.keep q3 (by simp; omega)
  have hs5 := f5.size
  have F5 : Fr [P] w x5 := (f4.mono (fun x hx => by cases hx)).trans f5
  have cS := fun W hW => Lib.hid (IH.out.unary P g c ⟨st.i + 1, st.ok⟩ W hW (by have := HN.out; have := h5.inb; simp only at this ⊢; omega))
  obtain ⟨m0, m1, m2, m3, _⟩ := cells4 q3
  have n3B : ¬ T3 = B := by omega
  have nB3 : ¬ B = T3 := by omega
  go_wp2_with fail
  go_region_held3 (fun w' => w'.cell? ⟨T3, 0, none⟩ = some (.int .i64 t.k) ∧ w'.cell? ⟨T3, 1, none⟩ = some (.int .i64 t.at') ∧ w'.cell? ⟨T3, 2, none⟩ = some (.string ⟨t.text.toArray⟩) ∧ w'.cell? ⟨T3, 3, none⟩ = some (.int .i64 t.n)) (first | go_keep | exact ⟨M7.1, M7.2.1, M7.2.2.1, M7.2.2.2.1⟩ | exact ⟨M6.1, M6.2.1, M6.2.2.1, M6.2.2.2.1⟩) ((first | (go_at_call 58; refine (op_any _ t _ _ _ _).mono ?_; rintro e x7 ⟨rfl, f7⟩; have Q7 := f7.keep (heap_old Q6 (.cells #[.int .i64 k2, .int .i64 a2, .string ⟨nm2.toArray⟩, .int .i64 n2, .string ⟨s2.toArray⟩, .slice A52 n52 c52, .slice A62 n62 c62, .slice A72 n72 c72] 27)) (fun x => by cases x); have hT7 := lt_of_heap Q7; have M7 := cells4 Q7; have G7 := f7.keep (heap_old G6 (.cells #[.int .i64 k2, .int .i64 a2, .string ⟨nm2.toArray⟩, .int .i64 n2, .string ⟨s2.toArray⟩, .slice A52 n52 c52, .slice A62 n62 c62, .slice A72 n72 c72] 27)) (fun x => by cases x); have hB7 := lt_of_heap G7; obtain ⟨⟨u0, u1, u2, u3, u4, u5, u6, u7⟩, z0, z1, z2, z3, z4, z5, z6, z7⟩ := cells8 G7) | (go_at_call 150; refine (cS _ (h5.fr (Fr.refl [] x5).drew)).out.mono ?_; rintro e x6 ⟨k2, a2, nm2, n2, s2, ls2, args2, arms2, A52, n52, c52, A62, n62, c62, A72, n72, c72, st2, rfl, hx2, hr2, hst2, f6⟩; have Q6 := f6.keep (w := x5.drew) q3 (by simp; omega); have hT6 := lt_of_heap Q6; have M6 := cells4 Q6; have G6 := f6.keep (w := x5.drew) g0 (by simpa using nB); have hB6 := lt_of_heap G6)))
  clear m0 m1 m2 m3 M6 M7
  have f6 : Fr [P] x5 x6 := ((Fr.refl [P] x5).drew).trans f6
  have f7 : Fr [] (x6.alloc (.cells #[.int .i64 k2, .int .i64 a2, .string ⟨nm2.toArray⟩, .int .i64 n2, .string ⟨s2.toArray⟩, .slice A52 n52 c52, .slice A62 n62 c62, .slice A72 n72 c72] 27)) x7 := f7
  have hs6 := f6.size
  have hs5 := lt_of_heap g0
  have row6 := RowG.lit keepsE (T := 27) (size := 8) (ok := fun b => B < b ∧ ¬ b = P) (hx2.keep (Sh.of_fr (Fr.refl [] x6) (fun b hb hlt => ⟨by have : x5.heap.size ≤ b := hb; exact ⟨by omega, by omega⟩, fun x => by cases x⟩))) rfl (by exact ⟨by omega, by omega⟩)
  have row7 := RowG.keep (ok' := fun b => B < b) keepsE row6 (Sh.of_fr f7 (fun b hb hlt => ⟨hb.1, fun x => by cases x⟩))
  have HG := Lib.hid (st8_heap G7 (.int .i64 19) (.int .i64 t.at') (.string ⟨#[]⟩) (.int .i64 6) (.string ⟨#[]⟩) (.slice none 0 0) (.slice (some ⟨x6.heap.size, 0, none⟩) 1 1) (.slice none 0 0))
  have HF := Lib.hid ((F5.trans (f6.trans0 (((Fr.refl [] x6).alloc _).trans f7))).step (st8_fr x7 B (.int .i64 19) (.int .i64 t.at') (.string ⟨#[]⟩) (.int .i64 6) (.string ⟨#[]⟩) (.slice none 0 0) (.slice (some ⟨x6.heap.size, 0, none⟩) 1 1) (.slice none 0 0)) (fun x hx => .inr (by simp at hx; omega)))
  have HP := Lib.hid (((hst2.fr (((Fr.refl [] x6).alloc _).trans f7))).frL (st8_fr x7 B (.int .i64 19) (.int .i64 t.at') (.string ⟨#[]⟩) (.int .i64 6) (.string ⟨#[]⟩) (.slice none 0 0) (.slice (some ⟨x6.heap.size, 0, none⟩) 1 1) (.slice none 0 0)) (by simpa using nP) (by simpa using ng))
  have HR := Lib.hid (RowG.keep (ok' := fun b => B ≤ b) keepsE row7 (Sh.of_fr (st8_fr x7 B (.int .i64 19) (.int .i64 t.at') (.string ⟨#[]⟩) (.int .i64 6) (.string ⟨#[]⟩) (.slice none 0 0) (.slice (some ⟨x6.heap.size, 0, none⟩) 1 1) (.slice none 0 0)) (fun b hb hlt => ⟨by omega, by simp; omega⟩)))
  unfold st8 at HG HF HP HR
  go_wp2_with fail
  generalize (((((((x7.setCell ⟨B, 0, none⟩ (.int .i64 19)).setCell ⟨B, 1, none⟩ (.int .i64 t.at')).setCell ⟨B, 2, none⟩ (.string ⟨#[]⟩)).setCell ⟨B, 3, none⟩ (.int .i64 6)).setCell ⟨B, 4, none⟩ (.string ⟨#[]⟩)).setCell ⟨B, 5, none⟩ (.slice none 0 0)).setCell ⟨B, 6, none⟩ (.slice (some ⟨x6.heap.size, 0, none⟩) 1 1)).setCell ⟨B, 7, none⟩ (.slice none 0 0) = Z at HG HF HP HR ⊢
  obtain ⟨⟨d0, d1, d2, d3, d4, d5, d6, d7⟩, _⟩ := cells8 HG.out
  have hxx := ExprAt.of_rows (k := 19) (a := t.at') (nm := []) (n := 6) (s := []) (c5 := fun _ => []) (c7 := fun _ => []) RowG.nil_ HR.out RowG.nil_
  refine bodyPost_ret (v := .agg #[.int .i64 19, .int .i64 t.at', .string ⟨#[]⟩, .int .i64 6, .string ⟨#[]⟩, .slice none 0 0, .slice (some ⟨x6.heap.size, 0, none⟩) 1 1, .slice none 0 0]) ?_ rfl ?_
  ·simp [results, Tryz.f150, go_sem, d0, d1, d2, d3, d4, d5, d6, d7]
  ·exact ⟨_, _, _, _, _, _, _, _, _, _, _, _, _, _, _, _, _, _, rfl, by rw [hB]; exact hxx, .look ht (.may_yes ht hb (.callE hr2 .retE)), HP.out, HF.out⟩
 | false =>
  refine (may_no [45] P g c ts st t ht hb x4 h4 HE.out).mono ?_
  rintro e y4 ⟨rfl, f5⟩
  go_wp2_with fail
  have g0 := f5.keep g0 (fun x => by cases x)
  have q3 := f5.keep q3 (fun x => by cases x)
  have h4 := h4.fr f5
  have f4 := f4.trans f5
  have hs4 := f5.size
  clear f5
  cases hb2 : isB t st.ok [[110, 111, 116]] with
  | true =>
   refine (may_yes [110, 111, 116] P g c ts st t ht hb2 y4 h4 HE.out).mono ?_
   rintro e x5 ⟨rfl, h5, f5⟩
   have g0 := f5.keep g0 (by simpa using nB)
   have q3 := f5.keep q3 (by simp; omega)
   have hs5 := f5.size
   have F5 : Fr [P] w x5 := (f4.mono (fun x hx => by cases hx)).trans f5
   have cS := fun W hW => Lib.hid (IH.out.unary P g c ⟨st.i + 1, st.ok⟩ W hW (by have := HN.out; have := h5.inb; simp only at this ⊢; omega))
   obtain ⟨m0, m1, m2, m3, _⟩ := cells4 q3
   have n3B : ¬ T3 = B := by omega
   have nB3 : ¬ B = T3 := by omega
   go_wp2_with fail
   go_region_held3 (fun w' => w'.cell? ⟨T3, 0, none⟩ = some (.int .i64 t.k) ∧ w'.cell? ⟨T3, 1, none⟩ = some (.int .i64 t.at') ∧ w'.cell? ⟨T3, 2, none⟩ = some (.string ⟨t.text.toArray⟩) ∧ w'.cell? ⟨T3, 3, none⟩ = some (.int .i64 t.n)) (first | go_keep | exact ⟨M7.1, M7.2.1, M7.2.2.1, M7.2.2.2.1⟩ | exact ⟨M6.1, M6.2.1, M6.2.2.1, M6.2.2.2.1⟩) ((first | (go_at_call 58; refine (op_any _ t _ _ _ _).mono ?_; rintro e x7 ⟨rfl, f7⟩; have Q7 := f7.keep (heap_old Q6 (.cells #[.int .i64 k2, .int .i64 a2, .string ⟨nm2.toArray⟩, .int .i64 n2, .string ⟨s2.toArray⟩, .slice A52 n52 c52, .slice A62 n62 c62, .slice A72 n72 c72] 27)) (fun x => by cases x); have hT7 := lt_of_heap Q7; have M7 := cells4 Q7; have G7 := f7.keep (heap_old G6 (.cells #[.int .i64 k2, .int .i64 a2, .string ⟨nm2.toArray⟩, .int .i64 n2, .string ⟨s2.toArray⟩, .slice A52 n52 c52, .slice A62 n62 c62, .slice A72 n72 c72] 27)) (fun x => by cases x); have hB7 := lt_of_heap G7; obtain ⟨⟨u0, u1, u2, u3, u4, u5, u6, u7⟩, z0, z1, z2, z3, z4, z5, z6, z7⟩ := cells8 G7) | (go_at_call 150; refine (cS _ (h5.fr (Fr.refl [] x5).drew)).out.mono ?_; rintro e x6 ⟨k2, a2, nm2, n2, s2, ls2, args2, arms2, A52, n52, c52, A62, n62, c62, A72, n72, c72, st2, rfl, hx2, hr2, hst2, f6⟩; have Q6 := f6.keep (w := x5.drew) q3 (by simp; omega); have hT6 := lt_of_heap Q6; have M6 := cells4 Q6; have G6 := f6.keep (w := x5.drew) g0 (by simpa using nB); have hB6 := lt_of_heap G6)))
   clear m0 m1 m2 m3 M6 M7
   have f6 : Fr [P] x5 x6 := ((Fr.refl [P] x5).drew).trans f6
   have f7 : Fr [] (x6.alloc (.cells #[.int .i64 k2, .int .i64 a2, .string ⟨nm2.toArray⟩, .int .i64 n2, .string ⟨s2.toArray⟩, .slice A52 n52 c52, .slice A62 n62 c62, .slice A72 n72 c72] 27)) x7 := f7
   have hs6 := f6.size
   have hs5 := lt_of_heap g0
   have row6 := RowG.lit keepsE (T := 27) (size := 8) (ok := fun b => B < b ∧ ¬ b = P) (hx2.keep (Sh.of_fr (Fr.refl [] x6) (fun b hb hlt => ⟨by have : x5.heap.size ≤ b := hb; exact ⟨by omega, by omega⟩, fun x => by cases x⟩))) rfl (by exact ⟨by omega, by omega⟩)
   have row7 := RowG.keep (ok' := fun b => B < b) keepsE row6 (Sh.of_fr f7 (fun b hb hlt => ⟨hb.1, fun x => by cases x⟩))
   have HG := Lib.hid (st8_heap G7 (.int .i64 19) (.int .i64 t.at') (.string ⟨#[]⟩) (.int .i64 9) (.string ⟨#[]⟩) (.slice none 0 0) (.slice (some ⟨x6.heap.size, 0, none⟩) 1 1) (.slice none 0 0))
   have HF := Lib.hid ((F5.trans (f6.trans0 (((Fr.refl [] x6).alloc _).trans f7))).step (st8_fr x7 B (.int .i64 19) (.int .i64 t.at') (.string ⟨#[]⟩) (.int .i64 9) (.string ⟨#[]⟩) (.slice none 0 0) (.slice (some ⟨x6.heap.size, 0, none⟩) 1 1) (.slice none 0 0)) (fun x hx => .inr (by simp at hx; omega)))
   have HP := Lib.hid (((hst2.fr (((Fr.refl [] x6).alloc _).trans f7))).frL (st8_fr x7 B (.int .i64 19) (.int .i64 t.at') (.string ⟨#[]⟩) (.int .i64 9) (.string ⟨#[]⟩) (.slice none 0 0) (.slice (some ⟨x6.heap.size, 0, none⟩) 1 1) (.slice none 0 0)) (by simpa using nP) (by simpa using ng))
   have HR := Lib.hid (RowG.keep (ok' := fun b => B ≤ b) keepsE row7 (Sh.of_fr (st8_fr x7 B (.int .i64 19) (.int .i64 t.at') (.string ⟨#[]⟩) (.int .i64 9) (.string ⟨#[]⟩) (.slice none 0 0) (.slice (some ⟨x6.heap.size, 0, none⟩) 1 1) (.slice none 0 0)) (fun b hb hlt => ⟨by omega, by simp; omega⟩)))
   unfold st8 at HG HF HP HR
   go_wp2_with fail
   generalize (((((((x7.setCell ⟨B, 0, none⟩ (.int .i64 19)).setCell ⟨B, 1, none⟩ (.int .i64 t.at')).setCell ⟨B, 2, none⟩ (.string ⟨#[]⟩)).setCell ⟨B, 3, none⟩ (.int .i64 9)).setCell ⟨B, 4, none⟩ (.string ⟨#[]⟩)).setCell ⟨B, 5, none⟩ (.slice none 0 0)).setCell ⟨B, 6, none⟩ (.slice (some ⟨x6.heap.size, 0, none⟩) 1 1)).setCell ⟨B, 7, none⟩ (.slice none 0 0) = Z at HG HF HP HR ⊢
   obtain ⟨⟨d0, d1, d2, d3, d4, d5, d6, d7⟩, _⟩ := cells8 HG.out
   have hxx := ExprAt.of_rows (k := 19) (a := t.at') (nm := []) (n := 9) (s := []) (c5 := fun _ => []) (c7 := fun _ => []) RowG.nil_ HR.out RowG.nil_
   refine bodyPost_ret (v := .agg #[.int .i64 19, .int .i64 t.at', .string ⟨#[]⟩, .int .i64 9, .string ⟨#[]⟩, .slice none 0 0, .slice (some ⟨x6.heap.size, 0, none⟩) 1 1, .slice none 0 0]) ?_ rfl ?_
   ·simp [results, Tryz.f150, go_sem, d0, d1, d2, d3, d4, d5, d6, d7]
   ·exact ⟨_, _, _, _, _, _, _, _, _, _, _, _, _, _, _, _, _, _, rfl, by rw [hB]; exact hxx, .look ht (.may_no ht hb (.els (.may_yes ht hb2 (.callE hr2 .retE)))), HP.out, HF.out⟩
  | false =>
   refine (may_no [110, 111, 116] P g c ts st t ht hb2 y4 h4 HE.out).mono ?_
   rintro e y5 ⟨rfl, f5⟩
   go_wp2_with fail
   have g0 := f5.keep g0 (fun x => by cases x)
   have h5 := h4.fr f5
   have f5 := f4.trans f5
   have hs5 := lt_of_heap g0
   refine (IH.out.app P g c st y5 h5 (by have := HN.out; omega)).mono ?_
   rintro e x6 ⟨k2, a2, nm2, n2, s2, ls2, args2, arms2, A52, n52, c52, A62, n62, c62, A72, n72, c72, st2, rfl, hx2, hr2, hst2, f6⟩
   have G6 := f6.keep g0 (by simpa using nB)
   have hx2 := hx2.keep (ok' := fun b => B < b) (Sh.of_fr (Fr.refl [] x6) (fun b hb hlt => ⟨by omega, fun x => by cases x⟩))
   have g0 := G6
   have HG := Lib.hid (st8_heap g0 (.int .i64 k2) (.int .i64 a2) (.string ⟨nm2.toArray⟩) (.int .i64 n2) (.string ⟨s2.toArray⟩) (.slice A52 n52 c52) (.slice A62 n62 c62) (.slice A72 n72 c72))
   have HF := Lib.hid (((f5.mono (fun x hx => by cases hx)).trans f6).step (st8_fr x6 B (.int .i64 k2) (.int .i64 a2) (.string ⟨nm2.toArray⟩) (.int .i64 n2) (.string ⟨s2.toArray⟩) (.slice A52 n52 c52) (.slice A62 n62 c62) (.slice A72 n72 c72)) (fun x hx => .inr (by simp at hx; omega)))
   have HP := Lib.hid ((hst2).frL (st8_fr x6 B (.int .i64 k2) (.int .i64 a2) (.string ⟨nm2.toArray⟩) (.int .i64 n2) (.string ⟨s2.toArray⟩) (.slice A52 n52 c52) (.slice A62 n62 c62) (.slice A72 n72 c72)) (by simpa using nP) (by simpa using ng))
   have HX : Hid (ExprAt (st8 x6 B (.int .i64 k2) (.int .i64 a2) (.string ⟨nm2.toArray⟩) (.int .i64 n2) (.string ⟨s2.toArray⟩) (.slice A52 n52 c52) (.slice A62 n62 c62) (.slice A72 n72 c72)) (fun b => B ≤ b) (.mk k2 a2 nm2 n2 s2 ls2 args2 arms2) [.int .i64 k2, .int .i64 a2, .string ⟨nm2.toArray⟩, .int .i64 n2, .string ⟨s2.toArray⟩, .slice A52 n52 c52, .slice A62 n62 c62, .slice A72 n72 c72]) := Lib.hid ((hx2).keep (Sh.of_fr (st8_fr x6 B (.int .i64 k2) (.int .i64 a2) (.string ⟨nm2.toArray⟩) (.int .i64 n2) (.string ⟨s2.toArray⟩) (.slice A52 n52 c52) (.slice A62 n62 c62) (.slice A72 n72 c72)) (fun b hb hlt => ⟨by omega, by simp; omega⟩)))
   unfold st8 at HG HF HP HX
   obtain ⟨⟨u0, u1, u2, u3, u4, u5, u6, u7⟩, z0, z1, z2, z3, z4, z5, z6, z7⟩ := cells8 g0
   go_wp2_with fail
   generalize (((((((x6.setCell ⟨B, 0, none⟩ (.int .i64 k2)).setCell ⟨B, 1, none⟩ (.int .i64 a2)).setCell ⟨B, 2, none⟩ (.string ⟨nm2.toArray⟩)).setCell ⟨B, 3, none⟩ (.int .i64 n2)).setCell ⟨B, 4, none⟩ (.string ⟨s2.toArray⟩)).setCell ⟨B, 5, none⟩ (.slice A52 n52 c52)).setCell ⟨B, 6, none⟩ (.slice A62 n62 c62)).setCell ⟨B, 7, none⟩ (.slice A72 n72 c72) = Z at HG HF HP HX ⊢
   obtain ⟨⟨d0, d1, d2, d3, d4, d5, d6, d7⟩, _⟩ := cells8 HG.out
   refine bodyPost_ret (v := .agg #[.int .i64 k2, .int .i64 a2, .string ⟨nm2.toArray⟩, .int .i64 n2, .string ⟨s2.toArray⟩, .slice A52 n52 c52, .slice A62 n62 c62, .slice A72 n72 c72]) ?_ rfl ?_
   ·simp [results, Tryz.f150, go_sem, d0, d1, d2, d3, d4, d5, d6, d7]
   ·exact ⟨_, _, _, _, _, _, _, _, _, _, _, _, _, _, _, _, _, _, rfl, by rw [hB]; exact HX.out, .look ht (.may_no ht hb (.els (.may_no ht hb2 (.callE hr2 .retE)))), HP.out, HF.out⟩
end Go.Proofs.YtpjkfeehgookkaaGreatDoor
namespace Go.Proofs.YtpjkfeehgookkaaGreatDoor
section
variable {P : Program} {md : Region.Mode} {ops ini : Array Oper} {n : Nat} {o : Oper} {Q : Exit → Act → World → Prop}
def lastOk (md : Region.Mode) (ops : Array Oper) (n : Nat) : Bool :=
 ((List.range (n + 1)).all fun j => ((ops[j]?).map fun o => o.after.all fun e => decide (e.on < j)).getD false) &&
 ((List.range n).all fun i => ((ops[i]?).map fun o => o.guard.isNone).getD false && (List.range (n + 1)).any fun j => decide (i < j) && ((ops[j]?).map fun o => o.after.any fun e => Region.binds md e && e.on == i).getD false)
def thenLast (P : Program) (ops : Array Oper) (o : Oper) (Q : Exit → Act → World → Prop) (K : Act → World → Prop) : Exit → Act → World → Prop
 | .normal, a, w => if Region.wanted o (yielded ops a.tmps) = true then Oper.wp P o a w K Q else K (a.put o.dst undef) w
 | e, a, w => Q e a w
structure LastOk (md : Region.Mode) (ops ini : Array Oper) (n : Nat) (o : Oper) : Prop where
 get : ∀ (i : Nat), i < n → ops[i]? = ini[i]?
 last : ops[n]? = some o
 size : ops.size = n + 1
 isize : ini.size = n
 back : ∀ (j : Nat) (oj : Oper), ops[j]? = some oj → ∀ e ∈ oj.after, e.on < j
 nog : ∀ (i : Nat) (oi : Oper), i < n → ops[i]? = some oi → oi.guard = none
 succ : ∀ (i : Nat), i < n → ∃ (j : Nat) (oj : Oper), i < j ∧ j ≤ n ∧ ops[j]? = some oj ∧ ∃ e ∈ oj.after, Region.binds md e = true ∧ e.on = i
theorem lastOk_of (h : lastOk md ops n = true) (hg : ∀ i, i < n → ops[i]? = ini[i]?) (hl : ops[n]? = some o) (hs : ops.size = n + 1) (hi : ini.size = n) : LastOk md ops ini n o := by
 unfold lastOk at h
 rw [Bool.and_eq_true, List.all_eq_true, List.all_eq_true] at h
 obtain ⟨h1, h2⟩ := h
 refine ⟨hg, hl, hs, hi, fun j oj hj e he => ?_, fun i oi hlt ho => ?_, fun i hlt => ?_⟩
 ·have hlt := (Array.getElem?_eq_some_iff.1 hj).1
  have := h1 j (List.mem_range.2 (by omega))
  rw [hj] at this
  simp only [Option.map_some, Option.getD_some] at this
  rw [Array.all_eq_true_iff_forall_mem] at this
  simpa using this e he
 ·have := h2 i (List.mem_range.2 hlt)
  rw [ho, Bool.and_eq_true] at this
  simpa using this.1
 ·have := h2 i (List.mem_range.2 hlt)
  rw [Bool.and_eq_true, List.any_eq_true] at this
  obtain ⟨j, hj, h3⟩ := this.2
  rw [Bool.and_eq_true] at h3
  have hj := List.mem_range.1 hj
  cases ho : ops[j]? with
  | none => rw [ho] at h3; simp at h3
  | some oj =>
   rw [ho] at h3
   simp only [Option.map_some, Option.getD_some] at h3
   rw [Array.any_eq_true] at h3
   obtain ⟨hd, k, hk, h4⟩ := h3
   rw [Bool.and_eq_true] at h4
   exact ⟨j, oj, by simpa using hd, by omega, ho, oj.after[k], Array.getElem_mem hk, h4.1, by simpa using h4.2⟩
structure Lst (md : Region.Mode) (ops : Array Oper) (n : Nat) (l l' : Array Bool) : Prop where
 same : ∀ j, j < n → ∀ d, l.getD j d = l'.getD j d
 un : l.getD n true = false
 sz : l.size = n + 1
 sz' : l'.size = n
 closed : ∀ (j : Nat) (oj : Oper), ops[j]? = some oj → l.getD j false = true → ∀ e ∈ oj.after, Region.binds md e = true → l.getD e.on false = true
theorem getD_lt {l : Array Bool} {j : Nat} (h : j < l.size) (d d' : Bool) : l.getD j d = l.getD j d' := by simp [Array.getD, h]
theorem Lst.put {l l' : Array Bool} (h : Lst md ops n l l') {i : Nat} (hi : i < n) (hr : ∃ o, ops[i]? = some o ∧ ∀ e ∈ o.after, Region.binds md e = true → l.getD e.on false = true) : Lst md ops n (l.setIfInBounds i true) (l'.setIfInBounds i true) := by
 refine ⟨fun j hj d => ?_, ?_, by simp [h.sz], by simp [h.sz'], fun j oj hj hl e he hb => ?_⟩
 ·by_cases hji : j = i
  ·subst hji
   simp [Array.getD, h.sz, h.sz', hj, Nat.lt_succ_of_lt hj]
  ·rw [getD_set_ne d (fun e => hji e.symm), getD_set_ne d (fun e => hji e.symm)]
   exact h.same j hj d
 ·rw [getD_set_ne true (by omega)]
  exact h.un
 ·obtain ⟨o, ho, hall⟩ := hr
  by_cases hji : j = i
  ·subst hji
   rw [hj] at ho
   cases ho
   exact getD_set_true (hall e he hb)
  ·rw [getD_set_ne false (fun e => hji e.symm)] at hl
   exact getD_set_true (h.closed j oj hj hl e he hb)
theorem mem_ready_ini (hk : LastOk md ops ini n o) {l l' : Array Bool} (h : Lst md ops n l l') {j : Nat} (hj : j < n) : j ∈ Region.ready md ops l ↔ j ∈ Region.ready md ini l' := by
 rw [mem_ready, mem_ready, hk.get j hj, h.same j hj]
 refine and_congr_right fun _ => ⟨fun ⟨oj, ho, hall⟩ => ⟨oj, ho, fun e he hb => ?_⟩, fun ⟨oj, ho, hall⟩ => ⟨oj, ho, fun e he hb => ?_⟩⟩
 ·have := hk.back j oj ((hk.get j hj).trans ho) e he
  rw [← h.same _ (by omega)]
  exact hall e he hb
 ·have := hk.back j oj ((hk.get j hj).trans ho) e he
  rw [h.same _ (by omega)]
  exact hall e he hb
theorem all_listed (hk : LastOk md ops ini n o) {l l' : Array Bool} (h : Lst md ops n l l') (hn : n ∈ Region.ready md ops l) : ∀ d i, n ≤ i + d → i < n → l.getD i false = true := by
 intro d
 induction d with
 | zero => intro i h1 h2; omega
 | succ d ih =>
  intro i h1 h2
  obtain ⟨j, oj, hij, hjn, ho, e, he, hb, hei⟩ := hk.succ i h2
  by_cases hj : j = n
  ·subst hj
   obtain ⟨_, oj', ho', hall⟩ := mem_ready.1 hn
   rw [ho] at ho'
   cases ho'
   rw [← hei]
   exact hall e he hb
  ·have := h.closed j oj ho (ih j (by omega) (by omega)) e he hb
   rw [hei] at this
   exact this
theorem last_ready (hk : LastOk md ops ini n o) {l l' : Array Bool} (h : Lst md ops n l l') (hr : Region.ready md ini l' = []) : n ∈ Region.ready md ops l := by
 have hall : ∀ i, i < n → l.getD i false = true := by
  intro i
  induction i using Nat.strongRecOn with
  | ind i ih =>
   intro hi
   cases hl : l.getD i false with
   | true => rfl
   | false =>
    exfalso
    have : i ∈ Region.ready md ini l' := by
     rw [← mem_ready_ini hk h hi, mem_ready]
     refine ⟨by rw [getD_lt (by rw [h.sz]; omega) true false]; exact hl, ?_⟩
     have hlt : i < ops.size := by rw [hk.size]; omega
     refine ⟨ops[i], Array.getElem?_eq_getElem hlt, fun e he hb => ?_⟩
     have := hk.back i _ (Array.getElem?_eq_getElem hlt) e he
     exact ih e.on this (by omega)
    rw [hr] at this
    cases this
 rw [mem_ready]
 refine ⟨h.un, o, hk.last, fun e he hb => ?_⟩
 have := hk.back n o hk.last e he
 exact hall _ this
theorem wp_last_conv {oi : Oper} {K K' K0 : Act → World → Prop} {a : Act} {w : World} (hK : ∀ a w, K a w → K' a w) (h : Oper.wp P oi a w K (thenLast P ops o Q K0)) : Oper.wp P oi a w K' Q := by
 unfold Oper.wp at *
 generalize (execOp a.eval oi).run P w = r at *
 cases r with
 | ok nx w' =>
  cases nx <;> simp only [Oper.upon] at h ⊢
  case value => exact hK _ _ h
  case skip => exact hK _ _ h
  case defer => exact hK _ _ h
  case enter f args =>
   refine Calls.mono h fun e w'' he => ?_
   cases e with
   | returned v => exact hK _ _ he
   | panicked c => exact he
   | outgrown => exact he
  case row => exact Rows.mono h fun v w'' hv => hK _ _ hv
 | halt x w' =>
  cases x <;> simp only [Oper.upon] at h ⊢
  case panic => exact h
theorem wpAny_last (hk : LastOk md ops ini n o) : ∀ (f : Nat) (l l' : Array Bool) (a : Act) (w : World), Lst md ops n l l' →
  wpAny P md ini (thenLast P ops o Q (Q .normal)) f l' a w → wpAny P md ops Q (f + 1) l a w := by
 intro f
 have fin : ∀ (f : Nat) (l l' : Array Bool) (a : Act) (w : World), Lst md ops n l l' → n ∈ Region.ready md ops l → thenLast P ops o Q (Q .normal) .normal a w → wpOp P ops Q n (wpAny P md ops Q f (l.setIfInBounds n true)) a w := by
  intro f l l' a w hl hn h
  have hnil : Region.ready md ops (l.setIfInBounds n true) = [] := by
   rw [List.eq_nil_iff_forall_not_mem]
   intro j hj
   obtain ⟨h1, oj, h2, _⟩ := mem_ready.1 hj
   have hlt : j < n + 1 := by rw [← hk.size]; exact (Array.getElem?_eq_some_iff.1 h2).1
   by_cases hjn : j = n
   ·subst hjn
    simp [Array.getD, hl.sz] at h1
   ·rw [getD_set_ne true (fun e => hjn e.symm), getD_lt (by rw [hl.sz]; omega) true false, all_listed hk hl hn n j (by omega) (by omega)] at h1
    cases h1
  have hd : ∀ a w, Q .normal a w → wpAny P md ops Q f (l.setIfInBounds n true) a w := fun a w h => wpAny_done hnil h f
  unfold wpOp
  rw [hk.last]
  show if _ then _ else _
  have h : if Region.wanted o (yielded ops a.tmps) = true then Oper.wp P o a w (Q .normal) Q else Q .normal (a.put o.dst undef) w := h
  split
  ·rename_i hw
   rw [if_pos hw] at h
   exact .inl (Oper.wp_mono hd h)
  ·rename_i hw
   rw [if_neg hw] at h
   exact hd _ _ h
 induction f with
 | zero =>
  intro l l' a w hl h
  have hn := last_ready hk hl h.1
  refine ⟨fun h0 => (by rw [h0] at hn; cases hn), fun i hi => ?_⟩
  have : i = n := by
   have hlt : i < n + 1 := by obtain ⟨_, oj, h2, _⟩ := mem_ready.1 hi; rw [← hk.size]; exact (Array.getElem?_eq_some_iff.1 h2).1
   by_cases hin : i < n
   ·rw [mem_ready_ini hk hl hin, h.1] at hi; cases hi
   ·omega
  subst this
  exact fin 0 l l' a w hl hi h.2
 | succ f ih =>
  intro l l' a w hl h
  refine ⟨fun h0 => ?_, fun i hi => ?_⟩
  ·have : Region.ready md ini l' = [] := by
    rw [List.eq_nil_iff_forall_not_mem]
    intro j hj
    have hlt : j < n := by obtain ⟨_, oj, h2, _⟩ := mem_ready.1 hj; rw [← hk.isize]; exact (Array.getElem?_eq_some_iff.1 h2).1
    rw [← mem_ready_ini hk hl hlt, h0] at hj
    cases hj
   have := last_ready hk hl this
   rw [h0] at this
   cases this
  ·by_cases hin : i < n
   ·have h1 := h.2 i ((mem_ready_ini hk hl hin).1 hi)
    obtain ⟨_, oi, ho, hall⟩ := mem_ready.1 hi
    have hg := hk.nog i oi hin ho
    unfold wpOp at h1 ⊢
    rw [← hk.get i hin, ho] at h1
    rw [ho]
    have hw : ∀ y, Region.wanted oi y = true := fun y => by simp [Region.wanted, hg]
    simp only [hw, if_true] at h1 ⊢
    rcases h1 with h1 | h1
    ·exact .inl (wp_last_conv (fun a w h => ih _ _ _ _ (hl.put hin ⟨oi, ho, hall⟩) h) h1)
    ·exact .inr h1
   ·have : i = n := by
     have hlt : i < n + 1 := by obtain ⟨_, oj, h2, _⟩ := mem_ready.1 hi; rw [← hk.size]; exact (Array.getElem?_eq_some_iff.1 h2).1
     omega
    subst this
    have hnil : Region.ready md ini l' = [] := by
     rw [List.eq_nil_iff_forall_not_mem]
     intro j hj
     have hlt : j < i := by obtain ⟨_, oj, h2, _⟩ := mem_ready.1 hj; rw [← hk.isize]; exact (Array.getElem?_eq_some_iff.1 h2).1
     rw [← mem_ready_ini hk hl hlt, mem_ready, getD_lt (by rw [hl.sz]; omega) true false, all_listed hk hl hi i j (by omega) hlt] at hj
     cases hj.1
    exact fin (f + 1) l l' a w hl hi (h.1 hnil)
theorem wp_region_last {id : Nat} {a : Act} {w : World} (S : World → Prop) (hm : P.follows .mixedOrders = true) (hk : LastOk .any ops ini n o)
  (h : wpAnyH P .any ini (thenLast P ops o Q (Q .normal)) S n (Array.replicate n false) a w.drew) : (Code.region id ops true).wp P Q a w := by
 refine wp_region_any hm ?_
 rw [hk.size]
 refine wpAny_last hk n _ _ _ _ ⟨fun j hj d => ?_, ?_, by simp, by simp, fun j oj hj hl => ?_⟩ (wpAny_of_held _ _ _ _ h)
 ·simp [Array.getD, hj, Nat.lt_succ_of_lt hj]
 ·simp [Array.getD]
 ·simp [Array.getD] at hl
theorem thenLast_run {K : Act → World → Prop} {a : Act} {w : World} (hg : o.guard = none) (h : Oper.wp P o a w K Q) : thenLast P ops o Q K .normal a w := by
 show if _ then _ else _
 rw [if_pos (by simp [Region.wanted, hg])]
 exact h
theorem wp_region_last8 {id : Nat} {a : Act} {w : World} {o0 o1 o2 o3 o4 o5 o6 o7 : Oper} (S : World → Prop) (hm : P.follows .mixedOrders = true) (hl : lastOk .any #[o0, o1, o2, o3, o4, o5, o6, o7] 7 = true) (hS : S w.drew)
  (h : ∀ K : Act → World → Prop, Shut (∀ a w, Q .normal a w → K a w) → S w.drew → wpAnyH P .any #[o0, o1, o2, o3, o4, o5, o6] (thenLast P #[o0, o1, o2, o3, o4, o5, o6, o7] o7 Q K) S 7 (Array.replicate 7 false) a w.drew) : (Code.region id #[o0, o1, o2, o3, o4, o5, o6, o7] true).wp P Q a w :=
 wp_region_last (ini := #[o0, o1, o2, o3, o4, o5, o6]) (o := o7) S hm (lastOk_of hl (by intro i hi; match i, hi with | 0, _ => rfl | 1, _ => rfl | 2, _ => rfl | 3, _ => rfl | 4, _ => rfl | 5, _ => rfl | 6, _ => rfl) rfl rfl rfl) (h _ (fun _ _ h => h) hS)
theorem wp_region_last10 {id : Nat} {a : Act} {w : World} {o0 o1 o2 o3 o4 o5 o6 o7 o8 o9 : Oper} (S : World → Prop) (hm : P.follows .mixedOrders = true) (hl : lastOk .any #[o0, o1, o2, o3, o4, o5, o6, o7, o8, o9] 9 = true) (hS : S w.drew)
  (h : ∀ K : Act → World → Prop, Shut (∀ a w, Q .normal a w → K a w) → S w.drew → wpAnyH P .any #[o0, o1, o2, o3, o4, o5, o6, o7, o8] (thenLast P #[o0, o1, o2, o3, o4, o5, o6, o7, o8, o9] o9 Q K) S 9 (Array.replicate 9 false) a w.drew) : (Code.region id #[o0, o1, o2, o3, o4, o5, o6, o7, o8, o9] true).wp P Q a w :=
 wp_region_last (ini := #[o0, o1, o2, o3, o4, o5, o6, o7, o8]) (o := o9) S hm (lastOk_of hl (by intro i hi; match i, hi with | 0, _ => rfl | 1, _ => rfl | 2, _ => rfl | 3, _ => rfl | 4, _ => rfl | 5, _ => rfl | 6, _ => rfl | 7, _ => rfl | 8, _ => rfl) rfl rfl rfl) (h _ (fun _ _ h => h) hS)
theorem wp_region_last20 {id : Nat} {a : Act} {w : World} {o0 o1 o2 o3 o4 o5 o6 o7 o8 o9 o10 o11 o12 o13 o14 o15 o16 o17 o18 o19 : Oper} (S : World → Prop) (hm : P.follows .mixedOrders = true) (hl : lastOk .any #[o0, o1, o2, o3, o4, o5, o6, o7, o8, o9, o10, o11, o12, o13, o14, o15, o16, o17, o18, o19] 19 = true) (hS : S w.drew)
  (h : ∀ K : Act → World → Prop, Shut (∀ a w, Q .normal a w → K a w) → S w.drew → wpAnyH P .any #[o0, o1, o2, o3, o4, o5, o6, o7, o8, o9, o10, o11, o12, o13, o14, o15, o16, o17, o18] (thenLast P #[o0, o1, o2, o3, o4, o5, o6, o7, o8, o9, o10, o11, o12, o13, o14, o15, o16, o17, o18, o19] o19 Q K) S 19 (Array.replicate 19 false) a w.drew) : (Code.region id #[o0, o1, o2, o3, o4, o5, o6, o7, o8, o9, o10, o11, o12, o13, o14, o15, o16, o17, o18, o19] true).wp P Q a w :=
 wp_region_last (ini := #[o0, o1, o2, o3, o4, o5, o6, o7, o8, o9, o10, o11, o12, o13, o14, o15, o16, o17, o18]) (o := o19) S hm (lastOk_of hl (by intro i hi; (have h : i = 0 ∨ i = 1 ∨ i = 2 ∨ i = 3 ∨ i = 4 ∨ i = 5 ∨ i = 6 ∨ i = 7 ∨ i = 8 ∨ i = 9 ∨ i = 10 ∨ i = 11 ∨ i = 12 ∨ i = 13 ∨ i = 14 ∨ i = 15 ∨ i = 16 ∨ i = 17 ∨ i = 18 := (by omega)); (rcases h with rfl | rfl | rfl | rfl | rfl | rfl | rfl | rfl | rfl | rfl | rfl | rfl | rfl | rfl | rfl | rfl | rfl | rfl | rfl <;> rfl)) rfl rfl rfl) (h _ (fun _ _ h => h) hS)
theorem drop_get {l rest : List Oper} {i : Nat} {oi : Oper} (h : l.drop i = oi :: rest) : l.toArray[i]? = some oi := by
 have := congrArg (fun l => l[0]?) h
 simpa using this
section
variable {S : World → Prop} {l rest : List Oper} {i fuel : Nat} {oi : Oper} {listed : Array Bool} {a : Act} {w : World}
theorem held_take {v : Value} (hd : l.drop i = oi :: rest) (hs : Region.noSelect l.toArray = true) (hf : Region.free md l.toArray listed i = true) (hr : (Region.ready md l.toArray listed).contains i = true)
  (hQ : ∀ c a w, Q (.panic c) (a.put oi.dst v) w → Q (.panic c) a w) (hy : YieldsIf P l.toArray S oi v a) (hS : S w)
  (h : wpAnyH P md l.toArray Q S fuel (listed.setIfInBounds i true) (a.put oi.dst v) w) : wpAnyH P md l.toArray Q S (fuel + 1) listed a w :=
 wpAnyH_take (drop_get hd) hs hf hr hQ hy hS h
theorem held_step (hd : l.drop i = oi :: rest) (hr : Region.ready md l.toArray listed = [i])
  (h : ∀ K' : Act → World → Prop, Shut (∀ a w, S w → (S w → wpAnyH P md l.toArray Q S fuel (listed.setIfInBounds i true) a w) → K' a w) → if Region.wanted oi (yielded l.toArray a.tmps) = true then Oper.wp P oi a w K' Q else K' (a.put oi.dst undef) w) :
  wpAnyH P md l.toArray Q S (fuel + 1) listed a w :=
 wpAnyH_ready hr (by simp) (AllReadyH.cons (drop_get hd) h AllReadyH.nil)
theorem held_cons {rs : List Nat} (hd : l.drop i = oi :: rest)
  (h : ∀ K' : Act → World → Prop, Shut (∀ a w, S w → (S w → wpAnyH P md l.toArray Q S fuel (listed.setIfInBounds i true) a w) → K' a w) → if Region.wanted oi (yielded l.toArray a.tmps) = true then Oper.wp P oi a w K' Q else K' (a.put oi.dst undef) w)
  (hs : AllReadyH P md l.toArray Q S fuel listed a w rs) : AllReadyH P md l.toArray Q S fuel listed a w (i :: rs) := AllReadyH.cons (drop_get hd) h hs
end
end
end Go.Proofs.YtpjkfeehgookkaaGreatDoor
namespace Go.Proofs.YtpjkfeehgookkaaGreatDoor
open Go.RowKit
attribute [local go_sem ↓] Go.wp_at_zero Go.wp_at_succ
def plI (w : World) (P : Nat) : Nat := match w.cell? ⟨P, 1, none⟩ with
 | some (.int _ n) => n.toNat
 | _ => 0
theorem PSt.pl {P g c : Nat} {ts : List Tok} {st : St} {w : World} (h : PSt P g c ts st w) : plI w P = st.i := by
 unfold plI
 rw [(cells3 h.blk).2.1]
 simp
theorem nameS_le (t : Tok) (st : St) : st.i ≤ (nameS t st).i := by unfold nameS; split <;> simp
set_option maxHeartbeats 2000000 in
set_option maxRecDepth 100000 in
theorem post_step (ts : List Tok) (hE : EndOk ts) (N : Nat) (ih : AllE ts N) : GE ts (N + 1) 4 .post 56 := by
 intro P g c st w h hm
 have H := Lib.hid h
 have hP := lt_of_heap h.blk
 have hgl := h.lt
 have hin := h.inb
 have HN := Lib.hid hm
 have HE := Lib.hid hE
 have IH := Lib.hid ih
 clear h hm hE ih
 go_enter Tryz.func56, Tryz.ntmps56
 go_wp2_with fail
 have f0 : Fr [] w (w.alloc (.cells #[.int .i64 0, .int .i64 0, .string ⟨#[]⟩, .int .i64 0, .string ⟨#[]⟩, .slice none 0 0, .slice none 0 0, .slice none 0 0] 27)) := (Fr.refl [] w).alloc _
 have g0 := heap_new w (.cells #[.int .i64 0, .int .i64 0, .string ⟨#[]⟩, .int .i64 0, .string ⟨#[]⟩, .slice none 0 0, .slice none 0 0, .slice none 0 0] 27)
 generalize w.alloc (.cells #[.int .i64 0, .int .i64 0, .string ⟨#[]⟩, .int .i64 0, .string ⟨#[]⟩, .slice none 0 0, .slice none 0 0, .slice none 0 0] 27) = w1 at *
 generalize hB : w.heap.size = B at *
 have hB1 := lt_of_heap g0
 have nP : ¬ P = B := by omega
 have nB : ¬ B = P := by omega
 have ng : ¬ g = B := by omega
 obtain ⟨t, ht⟩ := tok_at hin
 refine (now_any P g c ts st t ht w1 (H.out.fr f0) HE.out).mono ?_
 rintro e x3 ⟨rfl, f3⟩
 go_wp2_with fail
 have q3 := heap_new x3 (.cells #[.int .i64 t.k, .int .i64 t.at', .string ⟨t.text.toArray⟩, .int .i64 t.n] 46)
 have fb4 : Fr [] x3 (x3.alloc (.cells #[.int .i64 t.k, .int .i64 t.at', .string ⟨t.text.toArray⟩, .int .i64 t.n] 46)) := (Fr.refl [] x3).alloc _
 generalize x3.alloc (.cells #[.int .i64 t.k, .int .i64 t.at', .string ⟨t.text.toArray⟩, .int .i64 t.n] 46) = x4 at *
 have hT4 := lt_of_heap q3
 have hs3 := f3.size
 generalize x3.heap.size = T3 at *
 have f4 := (f0.trans f3).trans fb4
 have g0 := (f3.trans fb4).keep g0 (fun x => by cases x)
 have h4 := H.out.fr f4
 cases hb : isB t st.ok [[33]] with
 | true =>
  refine (may_yes [33] P g c ts st t ht hb x4 h4 HE.out).mono ?_
  rintro e x5 ⟨rfl, h5, f5⟩
  have g0 := f5.keep g0 (by simpa using nB)
  have q3 := f5.keep q3 (by simp; omega)
  have hs5 := f5.size
  have F5 : Fr [P] w x5 := (f4.mono (fun x hx => by cases hx)).trans f5
  have cS := fun W hW => Lib.hid (IH.out.post P g c ⟨st.i + 1, st.ok⟩ W hW (by have := HN.out; have := h5.inb; simp only at this ⊢; omega))
  obtain ⟨m0, m1, m2, m3, _⟩ := cells4 q3
  have n3B : ¬ T3 = B := by omega
  have nB3 : ¬ B = T3 := by omega
  go_wp2_with fail
  go_region_held3 (fun w' => w'.cell? ⟨T3, 0, none⟩ = some (.int .i64 t.k) ∧ w'.cell? ⟨T3, 1, none⟩ = some (.int .i64 t.at') ∧ w'.cell? ⟨T3, 2, none⟩ = some (.string ⟨t.text.toArray⟩) ∧ w'.cell? ⟨T3, 3, none⟩ = some (.int .i64 t.n)) (first | go_keep | exact ⟨M7.1, M7.2.1, M7.2.2.1, M7.2.2.2.1⟩ | exact ⟨M6.1, M6.2.1, M6.2.2.1, M6.2.2.2.1⟩) ((first | (go_at_call 58; refine (op_any _ t _ _ _ _).mono ?_; rintro e x7 ⟨rfl, f7⟩; have Q7 := f7.keep (heap_old Q6 (.cells #[.int .i64 k2, .int .i64 a2, .string ⟨nm2.toArray⟩, .int .i64 n2, .string ⟨s2.toArray⟩, .slice A52 n52 c52, .slice A62 n62 c62, .slice A72 n72 c72] 27)) (fun x => by cases x); have hT7 := lt_of_heap Q7; have M7 := cells4 Q7; have G7 := f7.keep (heap_old G6 (.cells #[.int .i64 k2, .int .i64 a2, .string ⟨nm2.toArray⟩, .int .i64 n2, .string ⟨s2.toArray⟩, .slice A52 n52 c52, .slice A62 n62 c62, .slice A72 n72 c72] 27)) (fun x => by cases x); have hB7 := lt_of_heap G7; obtain ⟨⟨u0, u1, u2, u3, u4, u5, u6, u7⟩, z0, z1, z2, z3, z4, z5, z6, z7⟩ := cells8 G7) | (go_at_call 56; refine (cS _ (h5.fr (Fr.refl [] x5).drew)).out.mono ?_; rintro e x6 ⟨k2, a2, nm2, n2, s2, ls2, args2, arms2, A52, n52, c52, A62, n62, c62, A72, n72, c72, st2, rfl, hx2, hr2, hst2, f6⟩; have Q6 := f6.keep (w := x5.drew) q3 (by simp; omega); have hT6 := lt_of_heap Q6; have M6 := cells4 Q6; have G6 := f6.keep (w := x5.drew) g0 (by simpa using nB); have hB6 := lt_of_heap G6)))
  clear m0 m1 m2 m3 M6 M7
  have f6 : Fr [P] x5 x6 := ((Fr.refl [P] x5).drew).trans f6
  have f7 : Fr [] (x6.alloc (.cells #[.int .i64 k2, .int .i64 a2, .string ⟨nm2.toArray⟩, .int .i64 n2, .string ⟨s2.toArray⟩, .slice A52 n52 c52, .slice A62 n62 c62, .slice A72 n72 c72] 27)) x7 := f7
  have hs6 := f6.size
  have hs5 := lt_of_heap g0
  have row6 := RowG.lit keepsE (T := 27) (size := 8) (ok := fun b => B < b ∧ ¬ b = P) (hx2.keep (Sh.of_fr (Fr.refl [] x6) (fun b hb hlt => ⟨by have : x5.heap.size ≤ b := hb; exact ⟨by omega, by omega⟩, fun x => by cases x⟩))) rfl (by exact ⟨by omega, by omega⟩)
  have row7 := RowG.keep (ok' := fun b => B < b) keepsE row6 (Sh.of_fr f7 (fun b hb hlt => ⟨hb.1, fun x => by cases x⟩))
  have HG := Lib.hid (st8_heap G7 (.int .i64 19) (.int .i64 t.at') (.string ⟨#[]⟩) (.int .i64 11) (.string ⟨#[]⟩) (.slice none 0 0) (.slice (some ⟨x6.heap.size, 0, none⟩) 1 1) (.slice none 0 0))
  have HF := Lib.hid ((F5.trans (f6.trans0 (((Fr.refl [] x6).alloc _).trans f7))).step (st8_fr x7 B (.int .i64 19) (.int .i64 t.at') (.string ⟨#[]⟩) (.int .i64 11) (.string ⟨#[]⟩) (.slice none 0 0) (.slice (some ⟨x6.heap.size, 0, none⟩) 1 1) (.slice none 0 0)) (fun x hx => .inr (by simp at hx; omega)))
  have HP := Lib.hid (((hst2.fr (((Fr.refl [] x6).alloc _).trans f7))).frL (st8_fr x7 B (.int .i64 19) (.int .i64 t.at') (.string ⟨#[]⟩) (.int .i64 11) (.string ⟨#[]⟩) (.slice none 0 0) (.slice (some ⟨x6.heap.size, 0, none⟩) 1 1) (.slice none 0 0)) (by simpa using nP) (by simpa using ng))
  have HR := Lib.hid (RowG.keep (ok' := fun b => B ≤ b) keepsE row7 (Sh.of_fr (st8_fr x7 B (.int .i64 19) (.int .i64 t.at') (.string ⟨#[]⟩) (.int .i64 11) (.string ⟨#[]⟩) (.slice none 0 0) (.slice (some ⟨x6.heap.size, 0, none⟩) 1 1) (.slice none 0 0)) (fun b hb hlt => ⟨by omega, by simp; omega⟩)))
  unfold st8 at HG HF HP HR
  go_wp2_with fail
  generalize (((((((x7.setCell ⟨B, 0, none⟩ (.int .i64 19)).setCell ⟨B, 1, none⟩ (.int .i64 t.at')).setCell ⟨B, 2, none⟩ (.string ⟨#[]⟩)).setCell ⟨B, 3, none⟩ (.int .i64 11)).setCell ⟨B, 4, none⟩ (.string ⟨#[]⟩)).setCell ⟨B, 5, none⟩ (.slice none 0 0)).setCell ⟨B, 6, none⟩ (.slice (some ⟨x6.heap.size, 0, none⟩) 1 1)).setCell ⟨B, 7, none⟩ (.slice none 0 0) = Z at HG HF HP HR ⊢
  obtain ⟨⟨d0, d1, d2, d3, d4, d5, d6, d7⟩, _⟩ := cells8 HG.out
  have hxx := ExprAt.of_rows (k := 19) (a := t.at') (nm := []) (n := 11) (s := []) (c5 := fun _ => []) (c7 := fun _ => []) RowG.nil_ HR.out RowG.nil_
  refine bodyPost_ret (v := .agg #[.int .i64 19, .int .i64 t.at', .string ⟨#[]⟩, .int .i64 11, .string ⟨#[]⟩, .slice none 0 0, .slice (some ⟨x6.heap.size, 0, none⟩) 1 1, .slice none 0 0]) ?_ rfl ?_
  ·simp [results, Tryz.f56, go_sem, d0, d1, d2, d3, d4, d5, d6, d7]
  ·exact ⟨_, _, _, _, _, _, _, _, _, _, _, _, _, _, _, _, _, _, rfl, by rw [hB]; exact hxx, .look ht (.may_yes ht hb (.callE hr2 .retE)), HP.out, HF.out⟩
 | false =>
  refine (may_no [33] P g c ts st t ht hb x4 h4 HE.out).mono ?_
  rintro e y5 ⟨rfl, f5⟩
  go_wp2_with fail
  have g0 := f5.keep g0 (fun x => by cases x)
  have h5 := h4.fr f5
  have f5 := f4.trans f5
  have hs5 := lt_of_heap g0
  refine (IH.out.atom P g c st y5 h5 (by have := HN.out; omega)).mono ?_
  rintro e x1 ⟨k1, a1, nm1, n1, s1, ls1, args1, arms1, A51, n51, c51, A61, n61, c61, A71, n71, c71, st1, rfl, hx1, hr1, hst1, f1⟩
  have g0 := f1.keep g0 (by simpa using nB)
  have hGx := g0
  have hs1 := f1.size
  have F1 : Fr [P] w x1 := (f5.mono (fun x hx => by cases hx)).trans f1
  have hle := hr1.le
  clear q3 hT4 hs3 f4 f3 fb4 h4 h5 f5
  go_wp2_with fail
  have q1 := heap_new x1 (.cells #[.int .i64 k1, .int .i64 a1, .string ⟨nm1.toArray⟩, .int .i64 n1, .string ⟨s1.toArray⟩, .slice A51 n51 c51, .slice A61 n61 c61, .slice A71 n71 c71] 27)
  have fb1 : Fr [] x1 (x1.alloc (.cells #[.int .i64 k1, .int .i64 a1, .string ⟨nm1.toArray⟩, .int .i64 n1, .string ⟨s1.toArray⟩, .slice A51 n51 c51, .slice A61 n61 c61, .slice A71 n71 c71] 27)) := (Fr.refl [] x1).alloc _
  generalize hY1 : x1.alloc (.cells #[.int .i64 k1, .int .i64 a1, .string ⟨nm1.toArray⟩, .int .i64 n1, .string ⟨s1.toArray⟩, .slice A51 n51 c51, .slice A61 n61 c61, .slice A71 n71 c71] 27) = x2 at *
  have hT1 := lt_of_heap q1
  generalize hTT1 : x1.heap.size = T4 at *
  have g0 := fb1.keep g0 (fun x => by cases x)
  have h2 := hst1.fr fb1
  have F2 := F1.trans0 fb1
  have hx1 := hx1.keep (ok' := fun b => B < b ∧ ¬ b = T4 ∧ ¬ b = P) (Sh.of_fr fb1 (fun b hb hlt => ⟨⟨by omega, by omega, by omega⟩, fun x => by cases x⟩))
  have HR0 : Hid (∀ x st', Run ts (body (.postL (.mk k1 a1 nm1 n1 s1 ls1 args1 arms1))) st1 (.e x) st' → Run ts (body .post) st (.e x) st') := Lib.hid (fun x st' h => .look ht (.may_no ht hb (.els (.callE hr1 (.callE h .retE)))))
  have hBT : B < T4 := by have := lt_of_heap hGx; omega
  clear hst1 hr1 fb1 f1 F1 hs1 H IH HN 
  go_loopw [] (fun wr => ∃ (k0 a0 : Int) (nm0 : List UInt8) (n0 : Int) (s0 : List UInt8) (ls0 : List (List UInt8)) (args0 : List ExprT) (arms0 : List (PatT × ExprT)) (A50 : Option Addr) (n50 c50 : Nat) (A60 : Option Addr) (n60 c60 : Nat) (A70 : Option Addr) (n70 c70 : Nat) (st0 : St), Fr [P] w wr ∧ B < T4 ∧ T4 < wr.heap.size ∧ wr.heap[B]? = some (.cells #[.int .i64 0, .int .i64 0, .string ⟨#[]⟩, .int .i64 0, .string ⟨#[]⟩, .slice none 0 0, .slice none 0 0, .slice none 0 0] 27 (0, 0)) ∧ wr.heap[T4]? = some (.cells #[.int .i64 k0, .int .i64 a0, .string ⟨nm0.toArray⟩, .int .i64 n0, .string ⟨s0.toArray⟩, .slice A50 n50 c50, .slice A60 n60 c60, .slice A70 n70 c70] 27 (0, 0)) ∧ ExprAt wr (fun b => B < b ∧ ¬ b = T4 ∧ ¬ b = P) (.mk k0 a0 nm0 n0 s0 ls0 args0 arms0) [.int .i64 k0, .int .i64 a0, .string ⟨nm0.toArray⟩, .int .i64 n0, .string ⟨s0.toArray⟩, .slice A50 n50 c50, .slice A60 n60 c60, .slice A70 n70 c70] ∧ PSt P g c ts st0 wr ∧ st.i ≤ st0.i ∧ Hid (∀ x st', Run ts (body (.postL (.mk k0 a0 nm0 n0 s0 ls0 args0 arms0))) st0 (.e x) st' → Run ts (body .post) st (.e x) st')) (fun wr => ts.length - plI wr P)
  case atStart => exact ⟨k1, a1, nm1, n1, s1, ls1, args1, arms1, A51, n51, c51, A61, n61, c61, A71, n71, c71, st1, F2, hBT, hT1, g0, q1, hx1, h2, hle, HR0⟩
  case round =>
   obtain ⟨k0, a0, nm0, n0, s0, ls0, args0, arms0, A50, n50, c50, A60, n60, c60, A70, n70, c70, st0, F, _, hT, g0, q0, hx0, h0, hle0, HR⟩ := hrel
   clear hx1 h2 HR0 q1 F2 hle hT1
   obtain ⟨u, hu⟩ := tok_at h0.inb
   have fa := (Fr.refl [] wr).alloc (.cells #[.string ⟨[46].toArray⟩] 9)
   have ci := fun cl => Lib.hid (is_any P g c ts st0 u hu wr.heap.size cl [[46]] (by simp) (wr.alloc (.cells #[.string ⟨[46].toArray⟩] 9)) (h0.fr fa) (StrsR.one wr [46] _) (by simp) HE.out)
   cases hc : isB u st0.ok [[46]] with
   | false =>
    rw [hc] at ci
    go_wp2_with fail
    refine (ci _).out.mono ?_; rintro e y1 ⟨rfl, f1⟩
    have f1 := fa.trans f1
    have g0 := f1.keep g0 (fun x => by cases x)
    obtain ⟨⟨l0, l1, l2, l3, l4, l5, l6, l7⟩, _⟩ := cells8 (f1.keep q0 (fun x => by cases x))
    have hx0 := hx0.keep (ok' := fun b => B < b) (Sh.of_fr f1 (fun b hb hlt => ⟨hb.1, fun x => by cases x⟩))
    have HG := Lib.hid (st8_heap g0 (.int .i64 k0) (.int .i64 a0) (.string ⟨nm0.toArray⟩) (.int .i64 n0) (.string ⟨s0.toArray⟩) (.slice A50 n50 c50) (.slice A60 n60 c60) (.slice A70 n70 c70))
    have HF := Lib.hid ((F.trans0 f1).step (st8_fr y1 B (.int .i64 k0) (.int .i64 a0) (.string ⟨nm0.toArray⟩) (.int .i64 n0) (.string ⟨s0.toArray⟩) (.slice A50 n50 c50) (.slice A60 n60 c60) (.slice A70 n70 c70)) (fun x hx => .inr (by simp at hx; omega)))
    have HP := Lib.hid (((h0.fr f1)).frL (st8_fr y1 B (.int .i64 k0) (.int .i64 a0) (.string ⟨nm0.toArray⟩) (.int .i64 n0) (.string ⟨s0.toArray⟩) (.slice A50 n50 c50) (.slice A60 n60 c60) (.slice A70 n70 c70)) (by simpa using nP) (by simpa using ng))
    have HX : Hid (ExprAt (st8 y1 B (.int .i64 k0) (.int .i64 a0) (.string ⟨nm0.toArray⟩) (.int .i64 n0) (.string ⟨s0.toArray⟩) (.slice A50 n50 c50) (.slice A60 n60 c60) (.slice A70 n70 c70)) (fun b => B ≤ b) (.mk k0 a0 nm0 n0 s0 ls0 args0 arms0) [.int .i64 k0, .int .i64 a0, .string ⟨nm0.toArray⟩, .int .i64 n0, .string ⟨s0.toArray⟩, .slice A50 n50 c50, .slice A60 n60 c60, .slice A70 n70 c70]) := Lib.hid ((hx0).keep (Sh.of_fr (st8_fr y1 B (.int .i64 k0) (.int .i64 a0) (.string ⟨nm0.toArray⟩) (.int .i64 n0) (.string ⟨s0.toArray⟩) (.slice A50 n50 c50) (.slice A60 n60 c60) (.slice A70 n70 c70)) (fun b hb hlt => ⟨by omega, by simp; omega⟩)))
    unfold st8 at HG HF HP HX
    obtain ⟨⟨u0, u1, u2, u3, u4, u5, u6, u7⟩, z0, z1, z2, z3, z4, z5, z6, z7⟩ := cells8 g0
    go_wp2_with fail
    generalize (((((((y1.setCell ⟨B, 0, none⟩ (.int .i64 k0)).setCell ⟨B, 1, none⟩ (.int .i64 a0)).setCell ⟨B, 2, none⟩ (.string ⟨nm0.toArray⟩)).setCell ⟨B, 3, none⟩ (.int .i64 n0)).setCell ⟨B, 4, none⟩ (.string ⟨s0.toArray⟩)).setCell ⟨B, 5, none⟩ (.slice A50 n50 c50)).setCell ⟨B, 6, none⟩ (.slice A60 n60 c60)).setCell ⟨B, 7, none⟩ (.slice A70 n70 c70) = Z at HG HF HP HX ⊢
    obtain ⟨⟨d0, d1, d2, d3, d4, d5, d6, d7⟩, _⟩ := cells8 HG.out
    refine bodyPost_ret (v := .agg #[.int .i64 k0, .int .i64 a0, .string ⟨nm0.toArray⟩, .int .i64 n0, .string ⟨s0.toArray⟩, .slice A50 n50 c50, .slice A60 n60 c60, .slice A70 n70 c70]) ?_ rfl ?_
    ·simp [results, Tryz.f56, go_sem, d0, d1, d2, d3, d4, d5, d6, d7]
    ·exact ⟨_, _, _, _, _, _, _, _, _, _, _, _, _, _, _, _, _, _, rfl, by rw [hB]; exact HX.out, HR.out _ _ (.look hu (by rw [if_neg (by rw [hc]; decide)]; exact .retE)), HP.out, HF.out⟩
   | true =>
    rw [hc] at ci
    have HK0 := Lib.hid (isB_ok hc)
    go_wp2_with fail
    refine (ci _).out.mono ?_; rintro e y1 ⟨rfl, f1⟩; go_wp2_with fail
    have f1 := fa.trans f1
    refine (next_any P g c ts st0 u hu HK0.out.1 HK0.out.2 y1 (h0.fr f1) HE.out).mono ?_
    rintro e y2 ⟨rfl, h2, f2⟩
    have f2 := (f1.mono (L' := [P]) (fun x hx => by cases hx)).trans f2
    have g0 := f2.keep g0 (by simpa using nB)
    have q0 := f2.keep q0 (by simp; omega)
    have F2 := F.trans f2
    have hx0 := hx0.keep (ok' := fun b => B < b ∧ ¬ b = T4 ∧ ¬ b = P) (Sh.of_fr f2 (fun b hb hlt => ⟨hb, by simp; omega⟩))
    go_wp2_with fail
    have q5 := heap_new y2 (.cells #[.int .i64 u.k, .int .i64 u.at', .string ⟨u.text.toArray⟩, .int .i64 u.n] 46)
    have fb5 : Fr [] y2 (y2.alloc (.cells #[.int .i64 u.k, .int .i64 u.at', .string ⟨u.text.toArray⟩, .int .i64 u.n] 46)) := (Fr.refl [] y2).alloc _
    have h3 := h2.fr fb5
    generalize y2.alloc (.cells #[.int .i64 u.k, .int .i64 u.at', .string ⟨u.text.toArray⟩, .int .i64 u.n] 46) = y3 at *
    have hT5 := lt_of_heap q5
    have hT4y := lt_of_heap q0
    have hs3 := fb5.size
    generalize y2.heap.size = T5 at *
    have g0 := fb5.keep g0 (fun x => by cases x)
    have q0 := fb5.keep q0 (fun x => by cases x)
    have F3 := F2.trans0 fb5
    have hx0 := hx0.keep (ok' := fun b => B < b ∧ ¬ b = T4 ∧ ¬ b = P) (Sh.of_fr fb5 (fun b hb hlt => ⟨hb, fun x => by cases x⟩))
    obtain ⟨v, hv⟩ := tok_at h3.inb
    have cN := fun W hW => Lib.hid (name_any P g c ts ⟨st0.i + 1, st0.ok⟩ v hv W hW HE.out)
    obtain ⟨⟨l0, l1, l2, l3, l4, l5, l6, l7⟩, _⟩ := cells8 q0
    obtain ⟨m0, m1, m2, m3, _⟩ := cells4 q5
    have n45 : ¬ T4 = T5 := by omega
    have n54 : ¬ T5 = T4 := by omega
    refine wp_region_last8 (fun w' => (w'.cell? ⟨T4, 0, none⟩ = some (.int .i64 k0) ∧ w'.cell? ⟨T4, 1, none⟩ = some (.int .i64 a0) ∧ w'.cell? ⟨T4, 2, none⟩ = some (.string ⟨nm0.toArray⟩) ∧ w'.cell? ⟨T4, 3, none⟩ = some (.int .i64 n0) ∧ w'.cell? ⟨T4, 4, none⟩ = some (.string ⟨s0.toArray⟩) ∧ w'.cell? ⟨T4, 5, none⟩ = some (.slice A50 n50 c50) ∧ w'.cell? ⟨T4, 6, none⟩ = some (.slice A60 n60 c60) ∧ w'.cell? ⟨T4, 7, none⟩ = some (.slice A70 n70 c70)) ∧ w'.cell? ⟨T5, 1, none⟩ = some (.int .i64 u.at')) (by kernel_rfl) (by kernel_rfl) ?hS8 (fun K hK hHeld => ?hr8)
    case hS8 => go_keep
    refine held_take (i := 0) (v := ?v9) rfl (by kernel_rfl) (by kernel_rfl) (by kernel_rfl) (fun _ _ _ h => h) (Or.inl ⟨by rfl, ?hy9⟩) (by assumption) ?hr9
    case hy9 =>
     intro w' hSw
     (try dsimp only at hSw)
     go_simp
     (try with_reducible rfl)
    (try simp only [Act.put, List.setIfInBounds_toArray, List.set_cons_zero, List.set_cons_succ])
    refine held_take (i := 1) (v := ?v10) rfl (by kernel_rfl) (by kernel_rfl) (by kernel_rfl) (fun _ _ _ h => h) (Or.inl ⟨by rfl, ?hy10⟩) (by assumption) ?hr10
    case hy10 =>
     intro w' hSw
     (try dsimp only at hSw)
     go_simp
     (try with_reducible rfl)
    (try simp only [Act.put, List.setIfInBounds_toArray, List.set_cons_zero, List.set_cons_succ])
    refine held_take (i := 2) (v := ?v11) rfl (by kernel_rfl) (by kernel_rfl) (by kernel_rfl) (fun _ _ _ h => h) (Or.inl ⟨by rfl, ?hy11⟩) (by assumption) ?hr11
    case hy11 =>
     intro w' hSw
     (try dsimp only at hSw)
     go_simp
     (try with_reducible rfl)
    (try simp only [Act.put, List.setIfInBounds_toArray, List.set_cons_zero, List.set_cons_succ])
    refine held_take (i := 4) (v := ?v12) rfl (by kernel_rfl) (by kernel_rfl) (by kernel_rfl) (fun _ _ _ h => h) (Or.inl ⟨by rfl, ?hy12⟩) (by assumption) ?hr12
    case hy12 =>
     intro w' hSw
     (try dsimp only at hSw)
     go_simp
     (try with_reducible rfl)
    (try simp only [Act.put, List.setIfInBounds_toArray, List.set_cons_zero, List.set_cons_succ])
    refine wpAnyH_ready (rs := [3, 5]) (by kernel_rfl) (by simp) (held_cons (i := 3) rfl (fun K3 hK3 => ?hA) (held_cons (i := 5) rfl (fun K5 hK5 => ?hB) AllReadyH.nil))
    case hA =>
     go_simp
     refine (cN _ (h3.fr (Fr.refl [] y3).drew)).out.mono ?_
     rintro e y4 ⟨rfl, h4, f4⟩
     have Q4 := f4.keep (w := y3.drew) q0 (by simp; omega)
     have Q5 := f4.keep (w := y3.drew) q5 (by simp; omega)
     have hT44 := lt_of_heap Q4
     have hT54 := lt_of_heap Q5
     have M5 := cells4 Q5
     obtain ⟨⟨u0, u1, u2, u3, u4, u5, u6, u7⟩, z0, z1, z2, z3, z4, z5, z6, z7⟩ := cells8 Q4
     go_simp
     refine hK3.out _ _ ?hS0 (fun hHeld => ?hq0)
     case hS0 => exact ⟨(cells8 Q4).1, M5.2.1⟩
     clear hK3 K3
     (try simp only [Act.put, List.setIfInBounds_toArray, List.set_cons_zero, List.set_cons_succ])
     refine held_step (i := 5) rfl (by kernel_rfl) (fun K5 hK5 => ?hr1)
     go_simp
     refine hK5.out _ _ ?hS1 (fun hHeld => ?hq1)
     case hS1 => exact ⟨(cells8 (heap_old Q4 _)).1, (cells4 (heap_old Q5 _)).2.1⟩
     clear hK5 K5
     (try simp only [Act.put, List.setIfInBounds_toArray, List.set_cons_zero, List.set_cons_succ])
     refine held_take (i := 6) (v := ?v2) rfl (by kernel_rfl) (by kernel_rfl) (by kernel_rfl) (fun _ _ _ h => h) (Or.inl ⟨by rfl, ?hy2⟩) (by assumption) ?hr2
     case hy2 =>
      intro w' hSw
      (try dsimp only at hSw)
      go_simp
      (try with_reducible rfl)
     (try simp only [Act.put, List.setIfInBounds_toArray, List.set_cons_zero, List.set_cons_succ])
     refine wpAnyH_done (by kernel_rfl) ?hr3 _
     refine thenLast_run rfl ?hq3
     go_simp
     refine hK.out _ _ ?hs3
     clear hK K
     clear M5 u0 u1 u2 u3 u4 u5 u6 u7 z0 z1 z2 z3 z4 z5 z6 z7 l0 l1 l2 l3 l4 l5 l6 l7 m0 m1 m2 m3
     have f4 : Fr [P] y3 y4 := ((Fr.refl [P] y3).drew).trans f4
     have g0 := f4.keep g0 (by simpa using nB)
     have hx0 := hx0.keep (ok' := fun b => B < b ∧ ¬ b = T4 ∧ ¬ b = P) (Sh.of_fr f4 (fun b hb hlt => ⟨hb, by simp; exact hb.2.2⟩))
     have hne4 : ¬ B = T4 := by omega
     have HG := Lib.hid (st8_heap Q4 (.int .i64 14) (.int .i64 u.at') (.string ⟨(nameT v ⟨st0.i + 1, st0.ok⟩).toArray⟩) (.int .i64 0) (.string ⟨#[]⟩) (.slice none 0 0) (.slice (some ⟨y4.heap.size, 0, none⟩) 1 1) (.slice none 0 0))
     have HB0 := Lib.hid ((st8_fr y4 T4 (.int .i64 14) (.int .i64 u.at') (.string ⟨(nameT v ⟨st0.i + 1, st0.ok⟩).toArray⟩) (.int .i64 0) (.string ⟨#[]⟩) (.slice none 0 0) (.slice (some ⟨y4.heap.size, 0, none⟩) 1 1) (.slice none 0 0)).keep g0 (by simp; omega))
     have HF := Lib.hid ((F3.trans f4).step (st8_fr y4 T4 (.int .i64 14) (.int .i64 u.at') (.string ⟨(nameT v ⟨st0.i + 1, st0.ok⟩).toArray⟩) (.int .i64 0) (.string ⟨#[]⟩) (.slice none 0 0) (.slice (some ⟨y4.heap.size, 0, none⟩) 1 1) (.slice none 0 0)) (fun x hx => .inr (by simp at hx; omega)))
     have HP := Lib.hid ((h4).frL (st8_fr y4 T4 (.int .i64 14) (.int .i64 u.at') (.string ⟨(nameT v ⟨st0.i + 1, st0.ok⟩).toArray⟩) (.int .i64 0) (.string ⟨#[]⟩) (.slice none 0 0) (.slice (some ⟨y4.heap.size, 0, none⟩) 1 1) (.slice none 0 0)) (by simp; omega) (by simp; omega))
     have HS := Lib.hid (st8_size y4 T4 (.int .i64 14) (.int .i64 u.at') (.string ⟨(nameT v ⟨st0.i + 1, st0.ok⟩).toArray⟩) (.int .i64 0) (.string ⟨#[]⟩) (.slice none 0 0) (.slice (some ⟨y4.heap.size, 0, none⟩) 1 1) (.slice none 0 0))
     have HX0 : Hid (ExprAt (st8 y4 T4 (.int .i64 14) (.int .i64 u.at') (.string ⟨(nameT v ⟨st0.i + 1, st0.ok⟩).toArray⟩) (.int .i64 0) (.string ⟨#[]⟩) (.slice none 0 0) (.slice (some ⟨y4.heap.size, 0, none⟩) 1 1) (.slice none 0 0)) (fun b => B < b ∧ ¬ b = T4 ∧ ¬ b = P) (.mk k0 a0 nm0 n0 s0 ls0 args0 arms0) [.int .i64 k0, .int .i64 a0, .string ⟨nm0.toArray⟩, .int .i64 n0, .string ⟨s0.toArray⟩, .slice A50 n50 c50, .slice A60 n60 c60, .slice A70 n70 c70]) := Lib.hid ((hx0).keep (Sh.of_fr (st8_fr y4 T4 (.int .i64 14) (.int .i64 u.at') (.string ⟨(nameT v ⟨st0.i + 1, st0.ok⟩).toArray⟩) (.int .i64 0) (.string ⟨#[]⟩) (.slice none 0 0) (.slice (some ⟨y4.heap.size, 0, none⟩) 1 1) (.slice none 0 0)) (fun b hb hlt => ⟨hb, by simp; exact hb.2.1⟩)))
     unfold st8 at HG HB0 HF HP HS HX0
     go_wp2_with fail
     generalize (((((((y4.setCell ⟨T4, 0, none⟩ (.int .i64 14)).setCell ⟨T4, 1, none⟩ (.int .i64 u.at')).setCell ⟨T4, 2, none⟩ (.string ⟨(nameT v ⟨st0.i + 1, st0.ok⟩).toArray⟩)).setCell ⟨T4, 3, none⟩ (.int .i64 0)).setCell ⟨T4, 4, none⟩ (.string ⟨#[]⟩)).setCell ⟨T4, 5, none⟩ (.slice none 0 0)).setCell ⟨T4, 6, none⟩ (.slice (some ⟨y4.heap.size, 0, none⟩) 1 1)).setCell ⟨T4, 7, none⟩ (.slice none 0 0) = Z at HG HB0 HF HP HS HX0 ⊢
     have hZ4 := lt_of_heap HG.out
     have row := RowG.lit keepsE (T := 27) (size := 8) (ok := fun b => B < b ∧ ¬ b = T4 ∧ ¬ b = P) HX0.out rfl (by exact ⟨by omega, by omega, by omega⟩)
     rw [HS.out] at row
     have hxx := ExprAt.of_rows (k := 14) (a := u.at') (nm := nameT v ⟨st0.i + 1, st0.ok⟩) (n := 0) (s := []) (c5 := fun _ => []) (c7 := fun _ => []) RowG.nil_ row RowG.nil_
     have hPz := HP.out.fr ((Fr.refl [] Z).alloc (.cells #[.int .i64 k0, .int .i64 a0, .string ⟨nm0.toArray⟩, .int .i64 n0, .string ⟨s0.toArray⟩, .slice A50 n50 c50, .slice A60 n60 c60, .slice A70 n70 c70] 27))
     have hpl := hPz.pl
     have hpl0 := h0.pl
     have hin0 := h0.inb
     have hns := nameS_le v ⟨st0.i + 1, st0.ok⟩
     simp only at hns
     go_roundw
     case rel => exact ⟨14, u.at', nameT v ⟨st0.i + 1, st0.ok⟩, 0, [], [], [(.mk k0 a0 nm0 n0 s0 ls0 args0 arms0)], [], none, 0, 0, some ⟨y4.heap.size, 0, none⟩, 1, 1, none, 0, 0, nameS v ⟨st0.i + 1, st0.ok⟩, HF.out.alloc _, hBT, by simp; omega, heap_old HB0.out _, heap_old HG.out _, hxx, hPz, by omega, Lib.hid (fun x st' h => HR.out _ _ (.look hu (by rw [if_pos hc]; exact .adv (.name_ hv (.callE h .retE)))))⟩
     case measure => rw [hpl, hpl0]; omega
    case hB =>
     go_simp
     refine hK5.out _ _ ?hS4 (fun hHeld => ?hq4)
     case hS4 => exact ⟨(cells8 (heap_old q0 _)).1, (cells4 (heap_old q5 _)).2.1⟩
     clear hK5 K5
     (try simp only [Act.put, List.setIfInBounds_toArray, List.set_cons_zero, List.set_cons_succ])
     refine held_step (i := 3) rfl (by kernel_rfl) (fun K3 hK3 => ?hr5)
     go_simp
     refine (cN _ (h3.fr ((Fr.refl [] y3).alloc _).drew)).out.mono ?_
     rintro e y4 ⟨rfl, h4, f4⟩
     have Q4 := f4.keep (w := (y3.alloc (.cells #[.int .i64 k0, .int .i64 a0, .string ⟨nm0.toArray⟩, .int .i64 n0, .string ⟨s0.toArray⟩, .slice A50 n50 c50, .slice A60 n60 c60, .slice A70 n70 c70] 27)).drew) (heap_old q0 (.cells #[.int .i64 k0, .int .i64 a0, .string ⟨nm0.toArray⟩, .int .i64 n0, .string ⟨s0.toArray⟩, .slice A50 n50 c50, .slice A60 n60 c60, .slice A70 n70 c70] 27)) (by simp; omega)
     have Q5 := f4.keep (w := (y3.alloc (.cells #[.int .i64 k0, .int .i64 a0, .string ⟨nm0.toArray⟩, .int .i64 n0, .string ⟨s0.toArray⟩, .slice A50 n50 c50, .slice A60 n60 c60, .slice A70 n70 c70] 27)).drew) (heap_old q5 (.cells #[.int .i64 k0, .int .i64 a0, .string ⟨nm0.toArray⟩, .int .i64 n0, .string ⟨s0.toArray⟩, .slice A50 n50 c50, .slice A60 n60 c60, .slice A70 n70 c70] 27)) (by simp; omega)
     have hT44 := lt_of_heap Q4
     have hT54 := lt_of_heap Q5
     have M5 := cells4 Q5
     obtain ⟨⟨u0, u1, u2, u3, u4, u5, u6, u7⟩, z0, z1, z2, z3, z4, z5, z6, z7⟩ := cells8 Q4
     go_simp
     refine hK3.out _ _ ?hS5 (fun hHeld => ?hq5)
     case hS5 => exact ⟨(cells8 Q4).1, M5.2.1⟩
     clear hK3 K3
     (try simp only [Act.put, List.setIfInBounds_toArray, List.set_cons_zero, List.set_cons_succ])
     refine held_take (i := 6) (v := ?v6) rfl (by kernel_rfl) (by kernel_rfl) (by kernel_rfl) (fun _ _ _ h => h) (Or.inl ⟨by rfl, ?hy6⟩) (by assumption) ?hr6
     case hy6 =>
      intro w' hSw
      (try dsimp only at hSw)
      go_simp
      (try with_reducible rfl)
     (try simp only [Act.put, List.setIfInBounds_toArray, List.set_cons_zero, List.set_cons_succ])
     refine wpAnyH_done (by kernel_rfl) ?hr7 _
     refine thenLast_run rfl ?hq7
     go_simp
     refine hK.out _ _ ?hs7
     clear hK K
     clear M5 u0 u1 u2 u3 u4 u5 u6 u7 z0 z1 z2 z3 z4 z5 z6 z7 l0 l1 l2 l3 l4 l5 l6 l7 m0 m1 m2 m3
     have f4 : Fr [P] (y3.alloc (.cells #[.int .i64 k0, .int .i64 a0, .string ⟨nm0.toArray⟩, .int .i64 n0, .string ⟨s0.toArray⟩, .slice A50 n50 c50, .slice A60 n60 c60, .slice A70 n70 c70] 27)) y4 := ((Fr.refl [P] _).drew).trans f4
     have row3 := RowG.lit keepsE (T := 27) (size := 8) (ok := fun b => B < b ∧ ¬ b = T4 ∧ ¬ b = P) hx0 rfl (by exact ⟨by omega, by omega, by omega⟩)
     have row4 := RowG.keep (ok' := fun b => B < b ∧ ¬ b = T4 ∧ ¬ b = P) keepsE row3 (Sh.of_fr f4 (fun b hb hlt => ⟨hb, by simp; exact hb.2.2⟩))
     have g0 := f4.keep (heap_old g0 (.cells #[.int .i64 k0, .int .i64 a0, .string ⟨nm0.toArray⟩, .int .i64 n0, .string ⟨s0.toArray⟩, .slice A50 n50 c50, .slice A60 n60 c60, .slice A70 n70 c70] 27)) (by simpa using nB)
     have hx0 := hx0.keep (ok' := fun b => B < b ∧ ¬ b = T4 ∧ ¬ b = P) (Sh.of_fr (((Fr.refl [P] y3).alloc (.cells #[.int .i64 k0, .int .i64 a0, .string ⟨nm0.toArray⟩, .int .i64 n0, .string ⟨s0.toArray⟩, .slice A50 n50 c50, .slice A60 n60 c60, .slice A70 n70 c70] 27)).trans f4) (fun b hb hlt => ⟨hb, by simp; exact hb.2.2⟩))
     have hne4 : ¬ B = T4 := by omega
     have HG := Lib.hid (st8_heap Q4 (.int .i64 14) (.int .i64 u.at') (.string ⟨(nameT v ⟨st0.i + 1, st0.ok⟩).toArray⟩) (.int .i64 0) (.string ⟨#[]⟩) (.slice none 0 0) (.slice (some ⟨y3.heap.size, 0, none⟩) 1 1) (.slice none 0 0))
     have HB0 := Lib.hid ((st8_fr y4 T4 (.int .i64 14) (.int .i64 u.at') (.string ⟨(nameT v ⟨st0.i + 1, st0.ok⟩).toArray⟩) (.int .i64 0) (.string ⟨#[]⟩) (.slice none 0 0) (.slice (some ⟨y3.heap.size, 0, none⟩) 1 1) (.slice none 0 0)).keep g0 (by simp; omega))
     have HF := Lib.hid ((F3.trans (((Fr.refl [P] y3).alloc _).trans f4)).step (st8_fr y4 T4 (.int .i64 14) (.int .i64 u.at') (.string ⟨(nameT v ⟨st0.i + 1, st0.ok⟩).toArray⟩) (.int .i64 0) (.string ⟨#[]⟩) (.slice none 0 0) (.slice (some ⟨y3.heap.size, 0, none⟩) 1 1) (.slice none 0 0)) (fun x hx => .inr (by simp at hx; omega)))
     have HP := Lib.hid ((h4).frL (st8_fr y4 T4 (.int .i64 14) (.int .i64 u.at') (.string ⟨(nameT v ⟨st0.i + 1, st0.ok⟩).toArray⟩) (.int .i64 0) (.string ⟨#[]⟩) (.slice none 0 0) (.slice (some ⟨y3.heap.size, 0, none⟩) 1 1) (.slice none 0 0)) (by simp; omega) (by simp; omega))
     have HS := Lib.hid (st8_size y4 T4 (.int .i64 14) (.int .i64 u.at') (.string ⟨(nameT v ⟨st0.i + 1, st0.ok⟩).toArray⟩) (.int .i64 0) (.string ⟨#[]⟩) (.slice none 0 0) (.slice (some ⟨y3.heap.size, 0, none⟩) 1 1) (.slice none 0 0))
     have HX0 : Hid (ExprAt (st8 y4 T4 (.int .i64 14) (.int .i64 u.at') (.string ⟨(nameT v ⟨st0.i + 1, st0.ok⟩).toArray⟩) (.int .i64 0) (.string ⟨#[]⟩) (.slice none 0 0) (.slice (some ⟨y3.heap.size, 0, none⟩) 1 1) (.slice none 0 0)) (fun b => B < b ∧ ¬ b = T4 ∧ ¬ b = P) (.mk k0 a0 nm0 n0 s0 ls0 args0 arms0) [.int .i64 k0, .int .i64 a0, .string ⟨nm0.toArray⟩, .int .i64 n0, .string ⟨s0.toArray⟩, .slice A50 n50 c50, .slice A60 n60 c60, .slice A70 n70 c70]) := Lib.hid ((hx0).keep (Sh.of_fr (st8_fr y4 T4 (.int .i64 14) (.int .i64 u.at') (.string ⟨(nameT v ⟨st0.i + 1, st0.ok⟩).toArray⟩) (.int .i64 0) (.string ⟨#[]⟩) (.slice none 0 0) (.slice (some ⟨y3.heap.size, 0, none⟩) 1 1) (.slice none 0 0)) (fun b hb hlt => ⟨hb, by simp; exact hb.2.1⟩)))
     have HW0 := Lib.hid (RowG.keep (ok' := fun b => B < b ∧ ¬ b = T4 ∧ ¬ b = P) keepsE row4 (Sh.of_fr (st8_fr y4 T4 (.int .i64 14) (.int .i64 u.at') (.string ⟨(nameT v ⟨st0.i + 1, st0.ok⟩).toArray⟩) (.int .i64 0) (.string ⟨#[]⟩) (.slice none 0 0) (.slice (some ⟨y3.heap.size, 0, none⟩) 1 1) (.slice none 0 0)) (fun b hb hlt => ⟨hb, by simp; exact hb.2.1⟩)))
     unfold st8 at HG HB0 HF HP HS HX0 HW0
     go_wp2_with fail
     generalize (((((((y4.setCell ⟨T4, 0, none⟩ (.int .i64 14)).setCell ⟨T4, 1, none⟩ (.int .i64 u.at')).setCell ⟨T4, 2, none⟩ (.string ⟨(nameT v ⟨st0.i + 1, st0.ok⟩).toArray⟩)).setCell ⟨T4, 3, none⟩ (.int .i64 0)).setCell ⟨T4, 4, none⟩ (.string ⟨#[]⟩)).setCell ⟨T4, 5, none⟩ (.slice none 0 0)).setCell ⟨T4, 6, none⟩ (.slice (some ⟨y3.heap.size, 0, none⟩) 1 1)).setCell ⟨T4, 7, none⟩ (.slice none 0 0) = Z at HG HB0 HF HP HS HX0 HW0 ⊢
     have hZ4 := lt_of_heap HG.out
     have hxx := ExprAt.of_rows (k := 14) (a := u.at') (nm := nameT v ⟨st0.i + 1, st0.ok⟩) (n := 0) (s := []) (c5 := fun _ => []) (c7 := fun _ => []) RowG.nil_ HW0.out RowG.nil_
     have hPz := HP.out
     have hpl := hPz.pl
     have hpl0 := h0.pl
     have hin0 := h0.inb
     have hns := nameS_le v ⟨st0.i + 1, st0.ok⟩
     simp only at hns
     go_roundw
     case rel => exact ⟨14, u.at', nameT v ⟨st0.i + 1, st0.ok⟩, 0, [], [], [(.mk k0 a0 nm0 n0 s0 ls0 args0 arms0)], [], none, 0, 0, some ⟨y3.heap.size, 0, none⟩, 1, 1, none, 0, 0, nameS v ⟨st0.i + 1, st0.ok⟩, HF.out, hBT, by exact hZ4, HB0.out, HG.out, hxx, hPz, by omega, Lib.hid (fun x st' h => HR.out _ _ (.look hu (by rw [if_pos hc]; exact .adv (.name_ hv (.callE h .retE)))))⟩
     case measure => rw [hpl, hpl0]; omega
end Go.Proofs.YtpjkfeehgookkaaGreatDoor
namespace Go.Proofs.YtpjkfeehgookkaaGreatDoor
open Go.RowKit
attribute [local go_sem ↓] Go.wp_at_zero Go.wp_at_succ
set_option maxHeartbeats 8000000 in
set_option maxRecDepth 100000 in
theorem sum_step (ts : List Tok) (hE : EndOk ts) (N : Nat) (ih : AllE ts N) : GE ts (N + 1) 8 .sum 132 := by
 intro P g c st w h hm
 have H := Lib.hid h
 have hP := lt_of_heap h.blk
 have hgl := h.lt
 have hin := h.inb
 have HN := Lib.hid hm
 have HE := Lib.hid hE
 have IH := Lib.hid ih
 clear h hm hE ih
 go_enter Tryz.func132, Tryz.ntmps132
 go_wp2_with fail
 have f0 : Fr [] w (w.alloc (.cells #[.int .i64 0, .int .i64 0, .string ⟨#[]⟩, .int .i64 0, .string ⟨#[]⟩, .slice none 0 0, .slice none 0 0, .slice none 0 0] 27)) := (Fr.refl [] w).alloc _
 have g0 := heap_new w (.cells #[.int .i64 0, .int .i64 0, .string ⟨#[]⟩, .int .i64 0, .string ⟨#[]⟩, .slice none 0 0, .slice none 0 0, .slice none 0 0] 27)
 generalize w.alloc (.cells #[.int .i64 0, .int .i64 0, .string ⟨#[]⟩, .int .i64 0, .string ⟨#[]⟩, .slice none 0 0, .slice none 0 0, .slice none 0 0] 27) = w1 at *
 generalize hB : w.heap.size = B at *
 have hB1 := lt_of_heap g0
 have nP : ¬ P = B := by omega
 have nB : ¬ B = P := by omega
 have ng : ¬ g = B := by omega
 refine (IH.out.prod P g c st w1 (H.out.fr f0) (by have := HN.out; omega)).mono ?_
 rintro e x1 ⟨k1, a1, nm1, n1, s1, ls1, args1, arms1, A51, n51, c51, A61, n61, c61, A71, n71, c71, st1, rfl, hx1, hr1, hst1, f1⟩
 have g0 := f1.keep g0 (by simpa using nB)
 have hGx := g0
 have hs1 := f1.size
 have F1 : Fr [P] w x1 := (f0.mono (fun x hx => by cases hx)).trans f1
 have hle := hr1.le
 go_wp2_with fail
 have q1 := heap_new x1 (.cells #[.int .i64 k1, .int .i64 a1, .string ⟨nm1.toArray⟩, .int .i64 n1, .string ⟨s1.toArray⟩, .slice A51 n51 c51, .slice A61 n61 c61, .slice A71 n71 c71] 27)
 have fb1 : Fr [] x1 (x1.alloc (.cells #[.int .i64 k1, .int .i64 a1, .string ⟨nm1.toArray⟩, .int .i64 n1, .string ⟨s1.toArray⟩, .slice A51 n51 c51, .slice A61 n61 c61, .slice A71 n71 c71] 27)) := (Fr.refl [] x1).alloc _
 generalize hY1 : x1.alloc (.cells #[.int .i64 k1, .int .i64 a1, .string ⟨nm1.toArray⟩, .int .i64 n1, .string ⟨s1.toArray⟩, .slice A51 n51 c51, .slice A61 n61 c61, .slice A71 n71 c71] 27) = x2 at *
 have hT1 := lt_of_heap q1
 generalize hTT1 : x1.heap.size = T3 at *
 have g0 := fb1.keep g0 (fun x => by cases x)
 have h2 := hst1.fr fb1
 have F2 := F1.trans0 fb1
 have hx1 := hx1.keep (ok' := fun b => B < b ∧ ¬ b = T3 ∧ ¬ b = P) (Sh.of_fr fb1 (fun b hb hlt => ⟨⟨by omega, by omega, by omega⟩, fun x => by cases x⟩))
 have HR0 : Hid (∀ x st', Run ts (body (.sumL (.mk k1 a1 nm1 n1 s1 ls1 args1 arms1))) st1 (.e x) st' → Run ts (body .sum) st (.e x) st') := Lib.hid (fun x st' h => .callE hr1 (.callE h .retE))
 have hBT : B < T3 := by have := lt_of_heap hGx; omega
 clear hst1 hr1 fb1 f1 F1 hs1 H hGx
 go_loopw [] (fun wr => ∃ (k0 a0 : Int) (nm0 : List UInt8) (n0 : Int) (s0 : List UInt8) (ls0 : List (List UInt8)) (args0 : List ExprT) (arms0 : List (PatT × ExprT)) (A50 : Option Addr) (n50 c50 : Nat) (A60 : Option Addr) (n60 c60 : Nat) (A70 : Option Addr) (n70 c70 : Nat) (st0 : St), Fr [P] w wr ∧ B < T3 ∧ T3 < wr.heap.size ∧ wr.heap[B]? = some (.cells #[.int .i64 0, .int .i64 0, .string ⟨#[]⟩, .int .i64 0, .string ⟨#[]⟩, .slice none 0 0, .slice none 0 0, .slice none 0 0] 27 (0, 0)) ∧ wr.heap[T3]? = some (.cells #[.int .i64 k0, .int .i64 a0, .string ⟨nm0.toArray⟩, .int .i64 n0, .string ⟨s0.toArray⟩, .slice A50 n50 c50, .slice A60 n60 c60, .slice A70 n70 c70] 27 (0, 0)) ∧ ExprAt wr (fun b => B < b ∧ ¬ b = T3 ∧ ¬ b = P) (.mk k0 a0 nm0 n0 s0 ls0 args0 arms0) [.int .i64 k0, .int .i64 a0, .string ⟨nm0.toArray⟩, .int .i64 n0, .string ⟨s0.toArray⟩, .slice A50 n50 c50, .slice A60 n60 c60, .slice A70 n70 c70] ∧ PSt P g c ts st0 wr ∧ st.i ≤ st0.i ∧ Hid (∀ x st', Run ts (body (.sumL (.mk k0 a0 nm0 n0 s0 ls0 args0 arms0))) st0 (.e x) st' → Run ts (body .sum) st (.e x) st')) (fun wr => ts.length - plI wr P)
 case atStart => exact ⟨k1, a1, nm1, n1, s1, ls1, args1, arms1, A51, n51, c51, A61, n61, c61, A71, n71, c71, st1, F2, hBT, hT1, g0, q1, hx1, h2, hle, HR0⟩
 case round =>
  obtain ⟨k0, a0, nm0, n0, s0, ls0, args0, arms0, A50, n50, c50, A60, n60, c60, A70, n70, c70, st0, F, _, hT, g0, q0, hx0, h0, hle0, HR⟩ := hrel
  clear hx1 h2 HR0 q1 F2 hle hT1
  obtain ⟨u, hu⟩ := tok_at h0.inb
  have fa := (Fr.refl [] wr).alloc (.cells #[.string ⟨[43].toArray⟩, .string ⟨[45].toArray⟩] 9)
  have hSt : StrsR wr.heap.size [[43], [45]] (wr.alloc (.cells #[.string ⟨[43].toArray⟩, .string ⟨[45].toArray⟩] 9)) := StrsR.lit wr [[43], [45]] _
  have ci := fun cl => Lib.hid (is_any P g c ts st0 u hu wr.heap.size cl [[43], [45]] (by simp) (wr.alloc (.cells #[.string ⟨[43].toArray⟩, .string ⟨[45].toArray⟩] 9)) (h0.fr fa) hSt (by simp) HE.out)
  clear hSt
  cases hc : isB u st0.ok [[43], [45]] with
  | false =>
   rw [hc] at ci
   go_wp2_with fail
   refine (ci _).out.mono ?_; rintro e y1 ⟨rfl, f1⟩
   have f1 := fa.trans f1
   have g0 := f1.keep g0 (fun x => by cases x)
   obtain ⟨⟨l0, l1, l2, l3, l4, l5, l6, l7⟩, _⟩ := cells8 (f1.keep q0 (fun x => by cases x))
   have hx0 := hx0.keep (ok' := fun b => B < b) (Sh.of_fr f1 (fun b hb hlt => ⟨hb.1, fun x => by cases x⟩))
   have HG := Lib.hid (st8_heap g0 (.int .i64 k0) (.int .i64 a0) (.string ⟨nm0.toArray⟩) (.int .i64 n0) (.string ⟨s0.toArray⟩) (.slice A50 n50 c50) (.slice A60 n60 c60) (.slice A70 n70 c70))
   have HF := Lib.hid ((F.trans0 f1).step (st8_fr y1 B (.int .i64 k0) (.int .i64 a0) (.string ⟨nm0.toArray⟩) (.int .i64 n0) (.string ⟨s0.toArray⟩) (.slice A50 n50 c50) (.slice A60 n60 c60) (.slice A70 n70 c70)) (fun x hx => .inr (by simp at hx; omega)))
   have HP := Lib.hid (((h0.fr f1)).frL (st8_fr y1 B (.int .i64 k0) (.int .i64 a0) (.string ⟨nm0.toArray⟩) (.int .i64 n0) (.string ⟨s0.toArray⟩) (.slice A50 n50 c50) (.slice A60 n60 c60) (.slice A70 n70 c70)) (by simpa using nP) (by simpa using ng))
   have HX : Hid (ExprAt (st8 y1 B (.int .i64 k0) (.int .i64 a0) (.string ⟨nm0.toArray⟩) (.int .i64 n0) (.string ⟨s0.toArray⟩) (.slice A50 n50 c50) (.slice A60 n60 c60) (.slice A70 n70 c70)) (fun b => B ≤ b) (.mk k0 a0 nm0 n0 s0 ls0 args0 arms0) [.int .i64 k0, .int .i64 a0, .string ⟨nm0.toArray⟩, .int .i64 n0, .string ⟨s0.toArray⟩, .slice A50 n50 c50, .slice A60 n60 c60, .slice A70 n70 c70]) := Lib.hid ((hx0).keep (Sh.of_fr (st8_fr y1 B (.int .i64 k0) (.int .i64 a0) (.string ⟨nm0.toArray⟩) (.int .i64 n0) (.string ⟨s0.toArray⟩) (.slice A50 n50 c50) (.slice A60 n60 c60) (.slice A70 n70 c70)) (fun b hb hlt => ⟨by omega, by simp; omega⟩)))
   unfold st8 at HG HF HP HX
   obtain ⟨⟨u0, u1, u2, u3, u4, u5, u6, u7⟩, z0, z1, z2, z3, z4, z5, z6, z7⟩ := cells8 g0
   go_wp2_with fail
   generalize (((((((y1.setCell ⟨B, 0, none⟩ (.int .i64 k0)).setCell ⟨B, 1, none⟩ (.int .i64 a0)).setCell ⟨B, 2, none⟩ (.string ⟨nm0.toArray⟩)).setCell ⟨B, 3, none⟩ (.int .i64 n0)).setCell ⟨B, 4, none⟩ (.string ⟨s0.toArray⟩)).setCell ⟨B, 5, none⟩ (.slice A50 n50 c50)).setCell ⟨B, 6, none⟩ (.slice A60 n60 c60)).setCell ⟨B, 7, none⟩ (.slice A70 n70 c70) = Z at HG HF HP HX ⊢
   obtain ⟨⟨d0, d1, d2, d3, d4, d5, d6, d7⟩, _⟩ := cells8 HG.out
   refine bodyPost_ret (v := .agg #[.int .i64 k0, .int .i64 a0, .string ⟨nm0.toArray⟩, .int .i64 n0, .string ⟨s0.toArray⟩, .slice A50 n50 c50, .slice A60 n60 c60, .slice A70 n70 c70]) ?_ rfl ?_
   ·simp [results, Tryz.f132, go_sem, d0, d1, d2, d3, d4, d5, d6, d7]
   ·exact ⟨_, _, _, _, _, _, _, _, _, _, _, _, _, _, _, _, _, _, rfl, by rw [hB]; exact HX.out, HR.out _ _ (.look hu (by rw [if_neg (by rw [hc]; decide)]; exact .retE)), HP.out, HF.out⟩
  | true =>
   rw [hc] at ci
   have HK0 := Lib.hid (isB_ok hc)
   go_wp2_with fail
   refine (ci _).out.mono ?_; rintro e y1 ⟨rfl, f1⟩; go_wp2_with fail
   have f1 := fa.trans f1
   refine (next_any P g c ts st0 u hu HK0.out.1 HK0.out.2 y1 (h0.fr f1) HE.out).mono ?_
   rintro e y2 ⟨rfl, h2, f2⟩
   have f2 := (f1.mono (L' := [P]) (fun x hx => by cases hx)).trans f2
   have g0 := f2.keep g0 (by simpa using nB)
   have q0 := f2.keep q0 (by simp; omega)
   have F2 := F.trans f2
   have hx0 := hx0.keep (ok' := fun b => B < b ∧ ¬ b = T3 ∧ ¬ b = P) (Sh.of_fr f2 (fun b hb hlt => ⟨hb, by simp; omega⟩))
   go_wp2_with fail
   have q5 := heap_new y2 (.cells #[.int .i64 u.k, .int .i64 u.at', .string ⟨u.text.toArray⟩, .int .i64 u.n] 46)
   have fb5 : Fr [] y2 (y2.alloc (.cells #[.int .i64 u.k, .int .i64 u.at', .string ⟨u.text.toArray⟩, .int .i64 u.n] 46)) := (Fr.refl [] y2).alloc _
   have h3 := h2.fr fb5
   generalize y2.alloc (.cells #[.int .i64 u.k, .int .i64 u.at', .string ⟨u.text.toArray⟩, .int .i64 u.n] 46) = y3 at *
   have hT5 := lt_of_heap q5
   have hT4y := lt_of_heap q0
   have hs3 := fb5.size
   generalize y2.heap.size = T5 at *
   have g0 := fb5.keep g0 (fun x => by cases x)
   have q0 := fb5.keep q0 (fun x => by cases x)
   have F3 := F2.trans0 fb5
   have hx0 := hx0.keep (ok' := fun b => B < b ∧ ¬ b = T3 ∧ ¬ b = P ∧ b < y3.heap.size) (Sh.of_fr fb5 (fun b hb hlt => ⟨⟨hb.1, hb.2.1, hb.2.2, by have := fb5.size; omega⟩, fun x => by cases x⟩))
   have cE := fun W hW => Lib.hid (IH.out.prod P g c ⟨st0.i + 1, st0.ok⟩ W hW (by have := HN.out; have := h3.inb; simp only at this ⊢; omega))
   obtain ⟨⟨l0, l1, l2, l3, l4, l5, l6, l7⟩, _⟩ := cells8 q0
   obtain ⟨m0, m1, m2, m3, _⟩ := cells4 q5
   have n45 : ¬ T3 = T5 := by omega
   have n54 : ¬ T5 = T3 := by omega
   clear F2 h2 f2 f1 fa ci
   refine wp_region_last10 (fun w' => (w'.cell? ⟨T3, 0, none⟩ = some (.int .i64 k0) ∧ w'.cell? ⟨T3, 1, none⟩ = some (.int .i64 a0) ∧ w'.cell? ⟨T3, 2, none⟩ = some (.string ⟨nm0.toArray⟩) ∧ w'.cell? ⟨T3, 3, none⟩ = some (.int .i64 n0) ∧ w'.cell? ⟨T3, 4, none⟩ = some (.string ⟨s0.toArray⟩) ∧ w'.cell? ⟨T3, 5, none⟩ = some (.slice A50 n50 c50) ∧ w'.cell? ⟨T3, 6, none⟩ = some (.slice A60 n60 c60) ∧ w'.cell? ⟨T3, 7, none⟩ = some (.slice A70 n70 c70)) ∧ w'.cell? ⟨T5, 0, none⟩ = some (.int .i64 u.k) ∧ w'.cell? ⟨T5, 1, none⟩ = some (.int .i64 u.at') ∧ w'.cell? ⟨T5, 2, none⟩ = some (.string ⟨u.text.toArray⟩) ∧ w'.cell? ⟨T5, 3, none⟩ = some (.int .i64 u.n)) (by kernel_rfl) (by kernel_rfl) ?hS0 (fun K hK hHeld => ?hr0)
   case hS0 => go_keep
   refine held_take (i := 0) (v := ?v1) rfl (by kernel_rfl) (by kernel_rfl) (by kernel_rfl) (fun _ _ _ h => h) (Or.inl ⟨by rfl, ?hy1⟩) (by assumption) ?hr1
   case hy1 =>
    intro w' hSw
    (try dsimp only at hSw)
    go_simp
    (try with_reducible rfl)
   (try simp only [Act.put, List.setIfInBounds_toArray, List.set_cons_zero, List.set_cons_succ])
   refine held_take (i := 1) (v := ?v2) rfl (by kernel_rfl) (by kernel_rfl) (by kernel_rfl) (fun _ _ _ h => h) (Or.inl ⟨by rfl, ?hy2⟩) (by assumption) ?hr2
   case hy2 =>
    intro w' hSw
    (try dsimp only at hSw)
    go_simp
    (try with_reducible rfl)
   (try simp only [Act.put, List.setIfInBounds_toArray, List.set_cons_zero, List.set_cons_succ])
   refine held_take (i := 3) (v := ?v3) rfl (by kernel_rfl) (by kernel_rfl) (by kernel_rfl) (fun _ _ _ h => h) (Or.inl ⟨by rfl, ?hy3⟩) (by assumption) ?hr3
   case hy3 =>
    intro w' hSw
    (try dsimp only at hSw)
    go_simp
    (try with_reducible rfl)
   (try simp only [Act.put, List.setIfInBounds_toArray, List.set_cons_zero, List.set_cons_succ])
   refine held_take (i := 4) (v := ?v4) rfl (by kernel_rfl) (by kernel_rfl) (by kernel_rfl) (fun _ _ _ h => h) (Or.inl ⟨by rfl, ?hy4⟩) (by assumption) ?hr4
   case hy4 =>
    intro w' hSw
    (try dsimp only at hSw)
    go_simp
    (try with_reducible rfl)
   (try simp only [Act.put, List.setIfInBounds_toArray, List.set_cons_zero, List.set_cons_succ])
   refine held_take (i := 5) (v := ?v5) rfl (by kernel_rfl) (by kernel_rfl) (by kernel_rfl) (fun _ _ _ h => h) (Or.inl ⟨by rfl, ?hy5⟩) (by assumption) ?hr5
   case hy5 =>
    intro w' hSw
    (try dsimp only at hSw)
    go_simp
    (try with_reducible rfl)
   (try simp only [Act.put, List.setIfInBounds_toArray, List.set_cons_zero, List.set_cons_succ])
   refine held_step (i := 2) rfl (by kernel_rfl) (fun K2 hK2 => ?hr6)
   go_simp
   refine (number_any u.text _).mono ?_
   rintro e w9 ⟨rfl, rfl⟩
   go_simp
   refine hK2.out _ _ ?hS6 (fun hHeld => ?hq6)
   case hS6 => go_keep
   clear hK2 K2
   (try simp only [Act.put, List.setIfInBounds_toArray, List.set_cons_zero, List.set_cons_succ])
   refine held_step (i := 6) rfl (by kernel_rfl) (fun K6 hK6 => ?hr7)
   go_simp
   refine (cE _ (h3.fr (Fr.refl [] y3).drew)).out.mono ?_
   rintro e y4 ⟨k2, a2, nm2, n2, s2, ls2, args2, arms2, A52, n52, c52, A62, n62, c62, A72, n72, c72, st2, rfl, hx2, hr2, hst2, f4⟩
   have Q4 := f4.keep (w := y3.drew) q0 (by simp; omega)
   have Q5 := f4.keep (w := y3.drew) q5 (by simp; omega)
   have hT44 := lt_of_heap Q4
   have hT54 := lt_of_heap Q5
   have M5 := cells4 Q5
   obtain ⟨⟨v0, v1, v2, v3, v4, v5, v6, v7⟩, _⟩ := cells8 Q4
   go_simp
   refine hK6.out _ _ ?hS7 (fun hHeld => ?hq7)
   case hS7 => exact ⟨(cells8 Q4).1, M5.1, M5.2.1, M5.2.2.1, M5.2.2.2.1⟩
   clear hK6 K6
   (try simp only [Act.put, List.setIfInBounds_toArray, List.set_cons_zero, List.set_cons_succ])
   refine held_step (i := 7) rfl (by kernel_rfl) (fun K7 hK7 => ?hr8)
   go_simp
   refine hK7.out _ _ ?hS8 (fun hHeld => ?hq8)
   case hS8 => exact ⟨(cells8 (heap_old Q4 _)).1, (cells4 (heap_old Q5 _)).1, (cells4 (heap_old Q5 _)).2.1, (cells4 (heap_old Q5 _)).2.2.1, (cells4 (heap_old Q5 _)).2.2.2.1⟩
   clear hK7 K7
   (try simp only [Act.put, List.setIfInBounds_toArray, List.set_cons_zero, List.set_cons_succ])
   refine held_step (i := 8) rfl (by kernel_rfl) (fun K8 hK8 => ?hr9)
   go_simp
   refine (op_any _ u _ _ _ _).mono ?_
   rintro e y5 ⟨rfl, f5⟩
   have R4 := f5.keep (heap_old Q4 (.cells #[.int .i64 k0, .int .i64 a0, .string ⟨nm0.toArray⟩, .int .i64 n0, .string ⟨s0.toArray⟩, .slice A50 n50 c50, .slice A60 n60 c60, .slice A70 n70 c70, .int .i64 k2, .int .i64 a2, .string ⟨nm2.toArray⟩, .int .i64 n2, .string ⟨s2.toArray⟩, .slice A52 n52 c52, .slice A62 n62 c62, .slice A72 n72 c72] 27)) (fun x => by cases x)
   have R5 := f5.keep (heap_old Q5 (.cells #[.int .i64 k0, .int .i64 a0, .string ⟨nm0.toArray⟩, .int .i64 n0, .string ⟨s0.toArray⟩, .slice A50 n50 c50, .slice A60 n60 c60, .slice A70 n70 c70, .int .i64 k2, .int .i64 a2, .string ⟨nm2.toArray⟩, .int .i64 n2, .string ⟨s2.toArray⟩, .slice A52 n52 c52, .slice A62 n62 c62, .slice A72 n72 c72] 27)) (fun x => by cases x)
   have hT45 := lt_of_heap R4
   have hT55 := lt_of_heap R5
   have M6 := cells4 R5
   obtain ⟨⟨u0, u1, u2, u3, u4, u5, u6, u7⟩, z0, z1, z2, z3, z4, z5, z6, z7⟩ := cells8 R4
   go_simp
   refine hK8.out _ _ ?hS9 (fun hHeld => ?hq9)
   case hS9 => exact ⟨(cells8 R4).1, M6.1, M6.2.1, M6.2.2.1, M6.2.2.2.1⟩
   clear hK8 K8
   (try simp only [Act.put, List.setIfInBounds_toArray, List.set_cons_zero, List.set_cons_succ])
   refine wpAnyH_done (by kernel_rfl) ?hr10 _
   refine thenLast_run rfl ?hq10
   go_simp
   refine hK.out _ _ ?hs10
   clear hK K
   all_goals
    clear M5 M6 u0 u1 u2 u3 u4 u5 u6 u7 z0 z1 z2 z3 z4 z5 z6 z7 l0 l1 l2 l3 l4 l5 l6 l7 m0 m1 m2 m3 v0 v1 v2 v3 v4 v5 v6 v7
    have f4 : Fr [P] y3 y4 := ((Fr.refl [P] y3).drew).trans f4
    have f5 : Fr [] (y4.alloc (.cells #[.int .i64 k0, .int .i64 a0, .string ⟨nm0.toArray⟩, .int .i64 n0, .string ⟨s0.toArray⟩, .slice A50 n50 c50, .slice A60 n60 c60, .slice A70 n70 c70, .int .i64 k2, .int .i64 a2, .string ⟨nm2.toArray⟩, .int .i64 n2, .string ⟨s2.toArray⟩, .slice A52 n52 c52, .slice A62 n62 c62, .slice A72 n72 c72] 27)) y5 := f5
    have hs4 := f4.size
    have hx0 := hx0.keep (ok' := fun b => B < b ∧ ¬ b = T3 ∧ ¬ b = P) (Sh.of_fr f4 (fun b hb hlt => ⟨⟨hb.1, hb.2.1, hb.2.2.1⟩, by simp; omega⟩))
    have hx2 := hx2.keep (ok' := fun b => B < b ∧ ¬ b = T3 ∧ ¬ b = P) (Sh.of_fr (Fr.refl [] y4) (fun b hb hlt => ⟨by have : y3.heap.size ≤ b := hb; exact ⟨by omega, by omega, by omega⟩, fun x => by cases x⟩))
    have row4 := RowG.lit2 keepsE (T := 27) (size := 8) (ok := fun b => B < b ∧ ¬ b = T3 ∧ ¬ b = P) hx0 hx2 rfl rfl (by exact ⟨by omega, by omega, by omega⟩)
    have row5 := RowG.keep (ok' := fun b => B < b ∧ ¬ b = T3 ∧ ¬ b = P) keepsE row4 (Sh.of_fr f5 (fun b hb hlt => ⟨hb, fun x => by cases x⟩))
    have f45 : Fr [P] y3 y5 := f4.trans0 (((Fr.refl [] y4).alloc _).trans f5)
    have h5 := hst2.fr (((Fr.refl [] y4).alloc (.cells #[.int .i64 k0, .int .i64 a0, .string ⟨nm0.toArray⟩, .int .i64 n0, .string ⟨s0.toArray⟩, .slice A50 n50 c50, .slice A60 n60 c60, .slice A70 n70 c70, .int .i64 k2, .int .i64 a2, .string ⟨nm2.toArray⟩, .int .i64 n2, .string ⟨s2.toArray⟩, .slice A52 n52 c52, .slice A62 n62 c62, .slice A72 n72 c72] 27)).trans f5)
    have g0 := f45.keep g0 (by simpa using nB)
    have hx0 := hx0.keep (ok' := fun b => B < b ∧ ¬ b = T3 ∧ ¬ b = P) (Sh.of_fr (((Fr.refl [] y4).alloc (.cells #[.int .i64 k0, .int .i64 a0, .string ⟨nm0.toArray⟩, .int .i64 n0, .string ⟨s0.toArray⟩, .slice A50 n50 c50, .slice A60 n60 c60, .slice A70 n70 c70, .int .i64 k2, .int .i64 a2, .string ⟨nm2.toArray⟩, .int .i64 n2, .string ⟨s2.toArray⟩, .slice A52 n52 c52, .slice A62 n62 c62, .slice A72 n72 c72] 27)).trans f5) (fun b hb hlt => ⟨hb, fun x => by cases x⟩))
    have hne4 : ¬ B = T3 := by omega
    have hle2 := hr2.le
    have HG := Lib.hid (st8_heap R4 (.int .i64 19) (.int .i64 u.at') (.string ⟨#[]⟩) (.int .i64 (numberOf u.text)) (.string ⟨#[]⟩) (.slice none 0 0) (.slice (some ⟨y4.heap.size, 0, none⟩) 2 2) (.slice none 0 0))
    have HB0 := Lib.hid ((st8_fr y5 T3 (.int .i64 19) (.int .i64 u.at') (.string ⟨#[]⟩) (.int .i64 (numberOf u.text)) (.string ⟨#[]⟩) (.slice none 0 0) (.slice (some ⟨y4.heap.size, 0, none⟩) 2 2) (.slice none 0 0)).keep g0 (by simp; omega))
    have HF := Lib.hid ((F3.trans f45).step (st8_fr y5 T3 (.int .i64 19) (.int .i64 u.at') (.string ⟨#[]⟩) (.int .i64 (numberOf u.text)) (.string ⟨#[]⟩) (.slice none 0 0) (.slice (some ⟨y4.heap.size, 0, none⟩) 2 2) (.slice none 0 0)) (fun x hx => .inr (by simp at hx; omega)))
    have HP := Lib.hid ((h5).frL (st8_fr y5 T3 (.int .i64 19) (.int .i64 u.at') (.string ⟨#[]⟩) (.int .i64 (numberOf u.text)) (.string ⟨#[]⟩) (.slice none 0 0) (.slice (some ⟨y4.heap.size, 0, none⟩) 2 2) (.slice none 0 0)) (by simp; omega) (by simp; omega))
    have HS := Lib.hid (st8_size y5 T3 (.int .i64 19) (.int .i64 u.at') (.string ⟨#[]⟩) (.int .i64 (numberOf u.text)) (.string ⟨#[]⟩) (.slice none 0 0) (.slice (some ⟨y4.heap.size, 0, none⟩) 2 2) (.slice none 0 0))
    have HX0 : Hid (ExprAt (st8 y5 T3 (.int .i64 19) (.int .i64 u.at') (.string ⟨#[]⟩) (.int .i64 (numberOf u.text)) (.string ⟨#[]⟩) (.slice none 0 0) (.slice (some ⟨y4.heap.size, 0, none⟩) 2 2) (.slice none 0 0)) (fun b => B < b ∧ ¬ b = T3 ∧ ¬ b = P) (.mk k0 a0 nm0 n0 s0 ls0 args0 arms0) [.int .i64 k0, .int .i64 a0, .string ⟨nm0.toArray⟩, .int .i64 n0, .string ⟨s0.toArray⟩, .slice A50 n50 c50, .slice A60 n60 c60, .slice A70 n70 c70]) := Lib.hid ((hx0).keep (Sh.of_fr (st8_fr y5 T3 (.int .i64 19) (.int .i64 u.at') (.string ⟨#[]⟩) (.int .i64 (numberOf u.text)) (.string ⟨#[]⟩) (.slice none 0 0) (.slice (some ⟨y4.heap.size, 0, none⟩) 2 2) (.slice none 0 0)) (fun b hb hlt => ⟨hb, by simp; exact hb.2.1⟩)))
    have HW0 := Lib.hid (RowG.keep (ok' := fun b => B < b ∧ ¬ b = T3 ∧ ¬ b = P) keepsE row5 (Sh.of_fr (st8_fr y5 T3 (.int .i64 19) (.int .i64 u.at') (.string ⟨#[]⟩) (.int .i64 (numberOf u.text)) (.string ⟨#[]⟩) (.slice none 0 0) (.slice (some ⟨y4.heap.size, 0, none⟩) 2 2) (.slice none 0 0)) (fun b hb hlt => ⟨hb, by simp; exact hb.2.1⟩)))
    unfold st8 at HG HB0 HF HP HS HX0 HW0
    go_wp2_with fail
    generalize (((((((y5.setCell ⟨T3, 0, none⟩ (.int .i64 19)).setCell ⟨T3, 1, none⟩ (.int .i64 u.at')).setCell ⟨T3, 2, none⟩ (.string ⟨#[]⟩)).setCell ⟨T3, 3, none⟩ (.int .i64 (numberOf u.text))).setCell ⟨T3, 4, none⟩ (.string ⟨#[]⟩)).setCell ⟨T3, 5, none⟩ (.slice none 0 0)).setCell ⟨T3, 6, none⟩ (.slice (some ⟨y4.heap.size, 0, none⟩) 2 2)).setCell ⟨T3, 7, none⟩ (.slice none 0 0) = Z at HG HB0 HF HP HS HX0 HW0 ⊢
    have hZ4 := lt_of_heap HG.out
    have hxx := ExprAt.of_rows (k := 19) (a := u.at') (nm := []) (n := numberOf u.text) (s := []) (c5 := fun _ => []) (c7 := fun _ => []) RowG.nil_ HW0.out RowG.nil_
    have hPz := HP.out
    have hpl := hPz.pl
    have hpl0 := h0.pl
    have hin0 := h0.inb
    simp only at hle2
    go_roundw
    case rel => exact ⟨19, u.at', [], numberOf u.text, [], [], [(.mk k0 a0 nm0 n0 s0 ls0 args0 arms0), (.mk k2 a2 nm2 n2 s2 ls2 args2 arms2)], [], none, 0, 0, some ⟨y4.heap.size, 0, none⟩, 2, 2, none, 0, 0, st2, HF.out, hBT, by exact hZ4, HB0.out, HG.out, hxx, hPz, by omega, Lib.hid (fun x st' h => HR.out _ _ (.look hu (by rw [if_pos hc]; exact .adv (.callE hr2 (.callE h .retE)))))⟩
    case measure => rw [hpl, hpl0]; omega
end Go.Proofs.YtpjkfeehgookkaaGreatDoor
namespace Go.Proofs.YtpjkfeehgookkaaGreatDoor
open Go.RowKit
attribute [local go_sem ↓] Go.wp_at_zero Go.wp_at_succ
set_option maxHeartbeats 8000000 in
set_option maxRecDepth 100000 in
theorem prod_step (ts : List Tok) (hE : EndOk ts) (N : Nat) (ih : AllE ts N) : GE ts (N + 1) 7 .prod 146 := by
 intro P g c st w h hm
 have H := Lib.hid h
 have hP := lt_of_heap h.blk
 have hgl := h.lt
 have hin := h.inb
 have HN := Lib.hid hm
 have HE := Lib.hid hE
 have IH := Lib.hid ih
 clear h hm hE ih
 go_enter Tryz.func146, Tryz.ntmps146
 go_wp2_with fail
 have f0 : Fr [] w (w.alloc (.cells #[.int .i64 0, .int .i64 0, .string ⟨#[]⟩, .int .i64 0, .string ⟨#[]⟩, .slice none 0 0, .slice none 0 0, .slice none 0 0] 27)) := (Fr.refl [] w).alloc _
 have g0 := heap_new w (.cells #[.int .i64 0, .int .i64 0, .string ⟨#[]⟩, .int .i64 0, .string ⟨#[]⟩, .slice none 0 0, .slice none 0 0, .slice none 0 0] 27)
 generalize w.alloc (.cells #[.int .i64 0, .int .i64 0, .string ⟨#[]⟩, .int .i64 0, .string ⟨#[]⟩, .slice none 0 0, .slice none 0 0, .slice none 0 0] 27) = w1 at *
 generalize hB : w.heap.size = B at *
 have hB1 := lt_of_heap g0
 have nP : ¬ P = B := by omega
 have nB : ¬ B = P := by omega
 have ng : ¬ g = B := by omega
 refine (IH.out.unary P g c st w1 (H.out.fr f0) (by have := HN.out; omega)).mono ?_
 rintro e x1 ⟨k1, a1, nm1, n1, s1, ls1, args1, arms1, A51, n51, c51, A61, n61, c61, A71, n71, c71, st1, rfl, hx1, hr1, hst1, f1⟩
 have g0 := f1.keep g0 (by simpa using nB)
 have hGx := g0
 have hs1 := f1.size
 have F1 : Fr [P] w x1 := (f0.mono (fun x hx => by cases hx)).trans f1
 have hle := hr1.le
 go_wp2_with fail
 have q1 := heap_new x1 (.cells #[.int .i64 k1, .int .i64 a1, .string ⟨nm1.toArray⟩, .int .i64 n1, .string ⟨s1.toArray⟩, .slice A51 n51 c51, .slice A61 n61 c61, .slice A71 n71 c71] 27)
 have fb1 : Fr [] x1 (x1.alloc (.cells #[.int .i64 k1, .int .i64 a1, .string ⟨nm1.toArray⟩, .int .i64 n1, .string ⟨s1.toArray⟩, .slice A51 n51 c51, .slice A61 n61 c61, .slice A71 n71 c71] 27)) := (Fr.refl [] x1).alloc _
 generalize hY1 : x1.alloc (.cells #[.int .i64 k1, .int .i64 a1, .string ⟨nm1.toArray⟩, .int .i64 n1, .string ⟨s1.toArray⟩, .slice A51 n51 c51, .slice A61 n61 c61, .slice A71 n71 c71] 27) = x2 at *
 have hT1 := lt_of_heap q1
 generalize hTT1 : x1.heap.size = T3 at *
 have g0 := fb1.keep g0 (fun x => by cases x)
 have h2 := hst1.fr fb1
 have F2 := F1.trans0 fb1
 have hx1 := hx1.keep (ok' := fun b => B < b ∧ ¬ b = T3 ∧ ¬ b = P) (Sh.of_fr fb1 (fun b hb hlt => ⟨⟨by omega, by omega, by omega⟩, fun x => by cases x⟩))
 have HR0 : Hid (∀ x st', Run ts (body (.prodL (.mk k1 a1 nm1 n1 s1 ls1 args1 arms1))) st1 (.e x) st' → Run ts (body .prod) st (.e x) st') := Lib.hid (fun x st' h => .callE hr1 (.callE h .retE))
 have hBT : B < T3 := by have := lt_of_heap hGx; omega
 clear hst1 hr1 fb1 f1 F1 hs1 H hGx
 go_loopw [] (fun wr => ∃ (k0 a0 : Int) (nm0 : List UInt8) (n0 : Int) (s0 : List UInt8) (ls0 : List (List UInt8)) (args0 : List ExprT) (arms0 : List (PatT × ExprT)) (A50 : Option Addr) (n50 c50 : Nat) (A60 : Option Addr) (n60 c60 : Nat) (A70 : Option Addr) (n70 c70 : Nat) (st0 : St), Fr [P] w wr ∧ B < T3 ∧ T3 < wr.heap.size ∧ wr.heap[B]? = some (.cells #[.int .i64 0, .int .i64 0, .string ⟨#[]⟩, .int .i64 0, .string ⟨#[]⟩, .slice none 0 0, .slice none 0 0, .slice none 0 0] 27 (0, 0)) ∧ wr.heap[T3]? = some (.cells #[.int .i64 k0, .int .i64 a0, .string ⟨nm0.toArray⟩, .int .i64 n0, .string ⟨s0.toArray⟩, .slice A50 n50 c50, .slice A60 n60 c60, .slice A70 n70 c70] 27 (0, 0)) ∧ ExprAt wr (fun b => B < b ∧ ¬ b = T3 ∧ ¬ b = P) (.mk k0 a0 nm0 n0 s0 ls0 args0 arms0) [.int .i64 k0, .int .i64 a0, .string ⟨nm0.toArray⟩, .int .i64 n0, .string ⟨s0.toArray⟩, .slice A50 n50 c50, .slice A60 n60 c60, .slice A70 n70 c70] ∧ PSt P g c ts st0 wr ∧ st.i ≤ st0.i ∧ Hid (∀ x st', Run ts (body (.prodL (.mk k0 a0 nm0 n0 s0 ls0 args0 arms0))) st0 (.e x) st' → Run ts (body .prod) st (.e x) st')) (fun wr => ts.length - plI wr P)
 case atStart => exact ⟨k1, a1, nm1, n1, s1, ls1, args1, arms1, A51, n51, c51, A61, n61, c61, A71, n71, c71, st1, F2, hBT, hT1, g0, q1, hx1, h2, hle, HR0⟩
 case round =>
  obtain ⟨k0, a0, nm0, n0, s0, ls0, args0, arms0, A50, n50, c50, A60, n60, c60, A70, n70, c70, st0, F, _, hT, g0, q0, hx0, h0, hle0, HR⟩ := hrel
  clear hx1 h2 HR0 q1 F2 hle hT1
  obtain ⟨u, hu⟩ := tok_at h0.inb
  have fa := (Fr.refl [] wr).alloc (.cells #[.string ⟨[42].toArray⟩, .string ⟨[47].toArray⟩, .string ⟨[37].toArray⟩] 9)
  have hSt : StrsR wr.heap.size [[42], [47], [37]] (wr.alloc (.cells #[.string ⟨[42].toArray⟩, .string ⟨[47].toArray⟩, .string ⟨[37].toArray⟩] 9)) := StrsR.lit wr [[42], [47], [37]] _
  have ci := fun cl => Lib.hid (is_any P g c ts st0 u hu wr.heap.size cl [[42], [47], [37]] (by simp) (wr.alloc (.cells #[.string ⟨[42].toArray⟩, .string ⟨[47].toArray⟩, .string ⟨[37].toArray⟩] 9)) (h0.fr fa) hSt (by simp) HE.out)
  clear hSt
  cases hc : isB u st0.ok [[42], [47], [37]] with
  | false =>
   rw [hc] at ci
   go_wp2_with fail
   refine (ci _).out.mono ?_; rintro e y1 ⟨rfl, f1⟩
   have f1 := fa.trans f1
   have g0 := f1.keep g0 (fun x => by cases x)
   obtain ⟨⟨l0, l1, l2, l3, l4, l5, l6, l7⟩, _⟩ := cells8 (f1.keep q0 (fun x => by cases x))
   have hx0 := hx0.keep (ok' := fun b => B < b) (Sh.of_fr f1 (fun b hb hlt => ⟨hb.1, fun x => by cases x⟩))
   have HG := Lib.hid (st8_heap g0 (.int .i64 k0) (.int .i64 a0) (.string ⟨nm0.toArray⟩) (.int .i64 n0) (.string ⟨s0.toArray⟩) (.slice A50 n50 c50) (.slice A60 n60 c60) (.slice A70 n70 c70))
   have HF := Lib.hid ((F.trans0 f1).step (st8_fr y1 B (.int .i64 k0) (.int .i64 a0) (.string ⟨nm0.toArray⟩) (.int .i64 n0) (.string ⟨s0.toArray⟩) (.slice A50 n50 c50) (.slice A60 n60 c60) (.slice A70 n70 c70)) (fun x hx => .inr (by simp at hx; omega)))
   have HP := Lib.hid (((h0.fr f1)).frL (st8_fr y1 B (.int .i64 k0) (.int .i64 a0) (.string ⟨nm0.toArray⟩) (.int .i64 n0) (.string ⟨s0.toArray⟩) (.slice A50 n50 c50) (.slice A60 n60 c60) (.slice A70 n70 c70)) (by simpa using nP) (by simpa using ng))
   have HX : Hid (ExprAt (st8 y1 B (.int .i64 k0) (.int .i64 a0) (.string ⟨nm0.toArray⟩) (.int .i64 n0) (.string ⟨s0.toArray⟩) (.slice A50 n50 c50) (.slice A60 n60 c60) (.slice A70 n70 c70)) (fun b => B ≤ b) (.mk k0 a0 nm0 n0 s0 ls0 args0 arms0) [.int .i64 k0, .int .i64 a0, .string ⟨nm0.toArray⟩, .int .i64 n0, .string ⟨s0.toArray⟩, .slice A50 n50 c50, .slice A60 n60 c60, .slice A70 n70 c70]) := Lib.hid ((hx0).keep (Sh.of_fr (st8_fr y1 B (.int .i64 k0) (.int .i64 a0) (.string ⟨nm0.toArray⟩) (.int .i64 n0) (.string ⟨s0.toArray⟩) (.slice A50 n50 c50) (.slice A60 n60 c60) (.slice A70 n70 c70)) (fun b hb hlt => ⟨by omega, by simp; omega⟩)))
   unfold st8 at HG HF HP HX
   obtain ⟨⟨u0, u1, u2, u3, u4, u5, u6, u7⟩, z0, z1, z2, z3, z4, z5, z6, z7⟩ := cells8 g0
   go_wp2_with fail
   generalize (((((((y1.setCell ⟨B, 0, none⟩ (.int .i64 k0)).setCell ⟨B, 1, none⟩ (.int .i64 a0)).setCell ⟨B, 2, none⟩ (.string ⟨nm0.toArray⟩)).setCell ⟨B, 3, none⟩ (.int .i64 n0)).setCell ⟨B, 4, none⟩ (.string ⟨s0.toArray⟩)).setCell ⟨B, 5, none⟩ (.slice A50 n50 c50)).setCell ⟨B, 6, none⟩ (.slice A60 n60 c60)).setCell ⟨B, 7, none⟩ (.slice A70 n70 c70) = Z at HG HF HP HX ⊢
   obtain ⟨⟨d0, d1, d2, d3, d4, d5, d6, d7⟩, _⟩ := cells8 HG.out
   refine bodyPost_ret (v := .agg #[.int .i64 k0, .int .i64 a0, .string ⟨nm0.toArray⟩, .int .i64 n0, .string ⟨s0.toArray⟩, .slice A50 n50 c50, .slice A60 n60 c60, .slice A70 n70 c70]) ?_ rfl ?_
   ·simp [results, Tryz.f146, go_sem, d0, d1, d2, d3, d4, d5, d6, d7]
   ·exact ⟨_, _, _, _, _, _, _, _, _, _, _, _, _, _, _, _, _, _, rfl, by rw [hB]; exact HX.out, HR.out _ _ (.look hu (by rw [if_neg (by rw [hc]; decide)]; exact .retE)), HP.out, HF.out⟩
  | true =>
   rw [hc] at ci
   have HK0 := Lib.hid (isB_ok hc)
   go_wp2_with fail
   refine (ci _).out.mono ?_; rintro e y1 ⟨rfl, f1⟩; go_wp2_with fail
   have f1 := fa.trans f1
   refine (next_any P g c ts st0 u hu HK0.out.1 HK0.out.2 y1 (h0.fr f1) HE.out).mono ?_
   rintro e y2 ⟨rfl, h2, f2⟩
   have f2 := (f1.mono (L' := [P]) (fun x hx => by cases hx)).trans f2
   have g0 := f2.keep g0 (by simpa using nB)
   have q0 := f2.keep q0 (by simp; omega)
   have F2 := F.trans f2
   have hx0 := hx0.keep (ok' := fun b => B < b ∧ ¬ b = T3 ∧ ¬ b = P) (Sh.of_fr f2 (fun b hb hlt => ⟨hb, by simp; omega⟩))
   go_wp2_with fail
   have q5 := heap_new y2 (.cells #[.int .i64 u.k, .int .i64 u.at', .string ⟨u.text.toArray⟩, .int .i64 u.n] 46)
   have fb5 : Fr [] y2 (y2.alloc (.cells #[.int .i64 u.k, .int .i64 u.at', .string ⟨u.text.toArray⟩, .int .i64 u.n] 46)) := (Fr.refl [] y2).alloc _
   have h3 := h2.fr fb5
   generalize y2.alloc (.cells #[.int .i64 u.k, .int .i64 u.at', .string ⟨u.text.toArray⟩, .int .i64 u.n] 46) = y3 at *
   have hT5 := lt_of_heap q5
   have hT4y := lt_of_heap q0
   have hs3 := fb5.size
   generalize y2.heap.size = T5 at *
   have g0 := fb5.keep g0 (fun x => by cases x)
   have q0 := fb5.keep q0 (fun x => by cases x)
   have F3 := F2.trans0 fb5
   have hx0 := hx0.keep (ok' := fun b => B < b ∧ ¬ b = T3 ∧ ¬ b = P ∧ b < y3.heap.size) (Sh.of_fr fb5 (fun b hb hlt => ⟨⟨hb.1, hb.2.1, hb.2.2, by have := fb5.size; omega⟩, fun x => by cases x⟩))
   have cE := fun W hW => Lib.hid (IH.out.unary P g c ⟨st0.i + 1, st0.ok⟩ W hW (by have := HN.out; have := h3.inb; simp only at this ⊢; omega))
   obtain ⟨⟨l0, l1, l2, l3, l4, l5, l6, l7⟩, _⟩ := cells8 q0
   obtain ⟨m0, m1, m2, m3, _⟩ := cells4 q5
   have n45 : ¬ T3 = T5 := by omega
   have n54 : ¬ T5 = T3 := by omega
   clear F2 h2 f2 f1 fa ci
   refine wp_region_last10 (fun w' => (w'.cell? ⟨T3, 0, none⟩ = some (.int .i64 k0) ∧ w'.cell? ⟨T3, 1, none⟩ = some (.int .i64 a0) ∧ w'.cell? ⟨T3, 2, none⟩ = some (.string ⟨nm0.toArray⟩) ∧ w'.cell? ⟨T3, 3, none⟩ = some (.int .i64 n0) ∧ w'.cell? ⟨T3, 4, none⟩ = some (.string ⟨s0.toArray⟩) ∧ w'.cell? ⟨T3, 5, none⟩ = some (.slice A50 n50 c50) ∧ w'.cell? ⟨T3, 6, none⟩ = some (.slice A60 n60 c60) ∧ w'.cell? ⟨T3, 7, none⟩ = some (.slice A70 n70 c70)) ∧ w'.cell? ⟨T5, 0, none⟩ = some (.int .i64 u.k) ∧ w'.cell? ⟨T5, 1, none⟩ = some (.int .i64 u.at') ∧ w'.cell? ⟨T5, 2, none⟩ = some (.string ⟨u.text.toArray⟩) ∧ w'.cell? ⟨T5, 3, none⟩ = some (.int .i64 u.n)) (by kernel_rfl) (by kernel_rfl) ?hS11 (fun K hK hHeld => ?hr11)
   case hS11 => go_keep
   refine held_take (i := 0) (v := ?v12) rfl (by kernel_rfl) (by kernel_rfl) (by kernel_rfl) (fun _ _ _ h => h) (Or.inl ⟨by rfl, ?hy12⟩) (by assumption) ?hr12
   case hy12 =>
    intro w' hSw
    (try dsimp only at hSw)
    go_simp
    (try with_reducible rfl)
   (try simp only [Act.put, List.setIfInBounds_toArray, List.set_cons_zero, List.set_cons_succ])
   refine held_take (i := 1) (v := ?v13) rfl (by kernel_rfl) (by kernel_rfl) (by kernel_rfl) (fun _ _ _ h => h) (Or.inl ⟨by rfl, ?hy13⟩) (by assumption) ?hr13
   case hy13 =>
    intro w' hSw
    (try dsimp only at hSw)
    go_simp
    (try with_reducible rfl)
   (try simp only [Act.put, List.setIfInBounds_toArray, List.set_cons_zero, List.set_cons_succ])
   refine held_take (i := 3) (v := ?v14) rfl (by kernel_rfl) (by kernel_rfl) (by kernel_rfl) (fun _ _ _ h => h) (Or.inl ⟨by rfl, ?hy14⟩) (by assumption) ?hr14
   case hy14 =>
    intro w' hSw
    (try dsimp only at hSw)
    go_simp
    (try with_reducible rfl)
   (try simp only [Act.put, List.setIfInBounds_toArray, List.set_cons_zero, List.set_cons_succ])
   refine held_take (i := 4) (v := ?v15) rfl (by kernel_rfl) (by kernel_rfl) (by kernel_rfl) (fun _ _ _ h => h) (Or.inl ⟨by rfl, ?hy15⟩) (by assumption) ?hr15
   case hy15 =>
    intro w' hSw
    (try dsimp only at hSw)
    go_simp
    (try with_reducible rfl)
   (try simp only [Act.put, List.setIfInBounds_toArray, List.set_cons_zero, List.set_cons_succ])
   refine held_take (i := 5) (v := ?v16) rfl (by kernel_rfl) (by kernel_rfl) (by kernel_rfl) (fun _ _ _ h => h) (Or.inl ⟨by rfl, ?hy16⟩) (by assumption) ?hr16
   case hy16 =>
    intro w' hSw
    (try dsimp only at hSw)
    go_simp
    (try with_reducible rfl)
   (try simp only [Act.put, List.setIfInBounds_toArray, List.set_cons_zero, List.set_cons_succ])
   refine held_step (i := 2) rfl (by kernel_rfl) (fun K2 hK2 => ?hr17)
   go_simp
   refine (number_any u.text _).mono ?_
   rintro e w9 ⟨rfl, rfl⟩
   go_simp
   refine hK2.out _ _ ?hS17 (fun hHeld => ?hq17)
   case hS17 => go_keep
   clear hK2 K2
   (try simp only [Act.put, List.setIfInBounds_toArray, List.set_cons_zero, List.set_cons_succ])
   refine held_step (i := 6) rfl (by kernel_rfl) (fun K6 hK6 => ?hr18)
   go_simp
   refine (cE _ (h3.fr (Fr.refl [] y3).drew)).out.mono ?_
   rintro e y4 ⟨k2, a2, nm2, n2, s2, ls2, args2, arms2, A52, n52, c52, A62, n62, c62, A72, n72, c72, st2, rfl, hx2, hr2, hst2, f4⟩
   have Q4 := f4.keep (w := y3.drew) q0 (by simp; omega)
   have Q5 := f4.keep (w := y3.drew) q5 (by simp; omega)
   have hT44 := lt_of_heap Q4
   have hT54 := lt_of_heap Q5
   have M5 := cells4 Q5
   obtain ⟨⟨v0, v1, v2, v3, v4, v5, v6, v7⟩, _⟩ := cells8 Q4
   go_simp
   refine hK6.out _ _ ?hS18 (fun hHeld => ?hq18)
   case hS18 => exact ⟨(cells8 Q4).1, M5.1, M5.2.1, M5.2.2.1, M5.2.2.2.1⟩
   clear hK6 K6
   (try simp only [Act.put, List.setIfInBounds_toArray, List.set_cons_zero, List.set_cons_succ])
   refine held_step (i := 7) rfl (by kernel_rfl) (fun K7 hK7 => ?hr19)
   go_simp
   refine hK7.out _ _ ?hS19 (fun hHeld => ?hq19)
   case hS19 => exact ⟨(cells8 (heap_old Q4 _)).1, (cells4 (heap_old Q5 _)).1, (cells4 (heap_old Q5 _)).2.1, (cells4 (heap_old Q5 _)).2.2.1, (cells4 (heap_old Q5 _)).2.2.2.1⟩
   clear hK7 K7
   (try simp only [Act.put, List.setIfInBounds_toArray, List.set_cons_zero, List.set_cons_succ])
   refine held_step (i := 8) rfl (by kernel_rfl) (fun K8 hK8 => ?hr20)
   go_simp
   refine (op_any _ u _ _ _ _).mono ?_
   rintro e y5 ⟨rfl, f5⟩
   have R4 := f5.keep (heap_old Q4 (.cells #[.int .i64 k0, .int .i64 a0, .string ⟨nm0.toArray⟩, .int .i64 n0, .string ⟨s0.toArray⟩, .slice A50 n50 c50, .slice A60 n60 c60, .slice A70 n70 c70, .int .i64 k2, .int .i64 a2, .string ⟨nm2.toArray⟩, .int .i64 n2, .string ⟨s2.toArray⟩, .slice A52 n52 c52, .slice A62 n62 c62, .slice A72 n72 c72] 27)) (fun x => by cases x)
   have R5 := f5.keep (heap_old Q5 (.cells #[.int .i64 k0, .int .i64 a0, .string ⟨nm0.toArray⟩, .int .i64 n0, .string ⟨s0.toArray⟩, .slice A50 n50 c50, .slice A60 n60 c60, .slice A70 n70 c70, .int .i64 k2, .int .i64 a2, .string ⟨nm2.toArray⟩, .int .i64 n2, .string ⟨s2.toArray⟩, .slice A52 n52 c52, .slice A62 n62 c62, .slice A72 n72 c72] 27)) (fun x => by cases x)
   have hT45 := lt_of_heap R4
   have hT55 := lt_of_heap R5
   have M6 := cells4 R5
   obtain ⟨⟨u0, u1, u2, u3, u4, u5, u6, u7⟩, z0, z1, z2, z3, z4, z5, z6, z7⟩ := cells8 R4
   go_simp
   refine hK8.out _ _ ?hS20 (fun hHeld => ?hq20)
   case hS20 => exact ⟨(cells8 R4).1, M6.1, M6.2.1, M6.2.2.1, M6.2.2.2.1⟩
   clear hK8 K8
   (try simp only [Act.put, List.setIfInBounds_toArray, List.set_cons_zero, List.set_cons_succ])
   refine wpAnyH_done (by kernel_rfl) ?hr21 _
   refine thenLast_run rfl ?hq21
   go_simp
   refine hK.out _ _ ?hs21
   clear hK K
   all_goals
    clear M5 M6 u0 u1 u2 u3 u4 u5 u6 u7 z0 z1 z2 z3 z4 z5 z6 z7 l0 l1 l2 l3 l4 l5 l6 l7 m0 m1 m2 m3 v0 v1 v2 v3 v4 v5 v6 v7
    have f4 : Fr [P] y3 y4 := ((Fr.refl [P] y3).drew).trans f4
    have f5 : Fr [] (y4.alloc (.cells #[.int .i64 k0, .int .i64 a0, .string ⟨nm0.toArray⟩, .int .i64 n0, .string ⟨s0.toArray⟩, .slice A50 n50 c50, .slice A60 n60 c60, .slice A70 n70 c70, .int .i64 k2, .int .i64 a2, .string ⟨nm2.toArray⟩, .int .i64 n2, .string ⟨s2.toArray⟩, .slice A52 n52 c52, .slice A62 n62 c62, .slice A72 n72 c72] 27)) y5 := f5
    have hs4 := f4.size
    have hx0 := hx0.keep (ok' := fun b => B < b ∧ ¬ b = T3 ∧ ¬ b = P) (Sh.of_fr f4 (fun b hb hlt => ⟨⟨hb.1, hb.2.1, hb.2.2.1⟩, by simp; omega⟩))
    have hx2 := hx2.keep (ok' := fun b => B < b ∧ ¬ b = T3 ∧ ¬ b = P) (Sh.of_fr (Fr.refl [] y4) (fun b hb hlt => ⟨by have : y3.heap.size ≤ b := hb; exact ⟨by omega, by omega, by omega⟩, fun x => by cases x⟩))
    have row4 := RowG.lit2 keepsE (T := 27) (size := 8) (ok := fun b => B < b ∧ ¬ b = T3 ∧ ¬ b = P) hx0 hx2 rfl rfl (by exact ⟨by omega, by omega, by omega⟩)
    have row5 := RowG.keep (ok' := fun b => B < b ∧ ¬ b = T3 ∧ ¬ b = P) keepsE row4 (Sh.of_fr f5 (fun b hb hlt => ⟨hb, fun x => by cases x⟩))
    have f45 : Fr [P] y3 y5 := f4.trans0 (((Fr.refl [] y4).alloc _).trans f5)
    have h5 := hst2.fr (((Fr.refl [] y4).alloc (.cells #[.int .i64 k0, .int .i64 a0, .string ⟨nm0.toArray⟩, .int .i64 n0, .string ⟨s0.toArray⟩, .slice A50 n50 c50, .slice A60 n60 c60, .slice A70 n70 c70, .int .i64 k2, .int .i64 a2, .string ⟨nm2.toArray⟩, .int .i64 n2, .string ⟨s2.toArray⟩, .slice A52 n52 c52, .slice A62 n62 c62, .slice A72 n72 c72] 27)).trans f5)
    have g0 := f45.keep g0 (by simpa using nB)
    have hx0 := hx0.keep (ok' := fun b => B < b ∧ ¬ b = T3 ∧ ¬ b = P) (Sh.of_fr (((Fr.refl [] y4).alloc (.cells #[.int .i64 k0, .int .i64 a0, .string ⟨nm0.toArray⟩, .int .i64 n0, .string ⟨s0.toArray⟩, .slice A50 n50 c50, .slice A60 n60 c60, .slice A70 n70 c70, .int .i64 k2, .int .i64 a2, .string ⟨nm2.toArray⟩, .int .i64 n2, .string ⟨s2.toArray⟩, .slice A52 n52 c52, .slice A62 n62 c62, .slice A72 n72 c72] 27)).trans f5) (fun b hb hlt => ⟨hb, fun x => by cases x⟩))
    have hne4 : ¬ B = T3 := by omega
    have hle2 := hr2.le
    have HG := Lib.hid (st8_heap R4 (.int .i64 19) (.int .i64 u.at') (.string ⟨#[]⟩) (.int .i64 (numberOf u.text)) (.string ⟨#[]⟩) (.slice none 0 0) (.slice (some ⟨y4.heap.size, 0, none⟩) 2 2) (.slice none 0 0))
    have HB0 := Lib.hid ((st8_fr y5 T3 (.int .i64 19) (.int .i64 u.at') (.string ⟨#[]⟩) (.int .i64 (numberOf u.text)) (.string ⟨#[]⟩) (.slice none 0 0) (.slice (some ⟨y4.heap.size, 0, none⟩) 2 2) (.slice none 0 0)).keep g0 (by simp; omega))
    have HF := Lib.hid ((F3.trans f45).step (st8_fr y5 T3 (.int .i64 19) (.int .i64 u.at') (.string ⟨#[]⟩) (.int .i64 (numberOf u.text)) (.string ⟨#[]⟩) (.slice none 0 0) (.slice (some ⟨y4.heap.size, 0, none⟩) 2 2) (.slice none 0 0)) (fun x hx => .inr (by simp at hx; omega)))
    have HP := Lib.hid ((h5).frL (st8_fr y5 T3 (.int .i64 19) (.int .i64 u.at') (.string ⟨#[]⟩) (.int .i64 (numberOf u.text)) (.string ⟨#[]⟩) (.slice none 0 0) (.slice (some ⟨y4.heap.size, 0, none⟩) 2 2) (.slice none 0 0)) (by simp; omega) (by simp; omega))
    have HS := Lib.hid (st8_size y5 T3 (.int .i64 19) (.int .i64 u.at') (.string ⟨#[]⟩) (.int .i64 (numberOf u.text)) (.string ⟨#[]⟩) (.slice none 0 0) (.slice (some ⟨y4.heap.size, 0, none⟩) 2 2) (.slice none 0 0))
    have HX0 : Hid (ExprAt (st8 y5 T3 (.int .i64 19) (.int .i64 u.at') (.string ⟨#[]⟩) (.int .i64 (numberOf u.text)) (.string ⟨#[]⟩) (.slice none 0 0) (.slice (some ⟨y4.heap.size, 0, none⟩) 2 2) (.slice none 0 0)) (fun b => B < b ∧ ¬ b = T3 ∧ ¬ b = P) (.mk k0 a0 nm0 n0 s0 ls0 args0 arms0) [.int .i64 k0, .int .i64 a0, .string ⟨nm0.toArray⟩, .int .i64 n0, .string ⟨s0.toArray⟩, .slice A50 n50 c50, .slice A60 n60 c60, .slice A70 n70 c70]) := Lib.hid ((hx0).keep (Sh.of_fr (st8_fr y5 T3 (.int .i64 19) (.int .i64 u.at') (.string ⟨#[]⟩) (.int .i64 (numberOf u.text)) (.string ⟨#[]⟩) (.slice none 0 0) (.slice (some ⟨y4.heap.size, 0, none⟩) 2 2) (.slice none 0 0)) (fun b hb hlt => ⟨hb, by simp; exact hb.2.1⟩)))
    have HW0 := Lib.hid (RowG.keep (ok' := fun b => B < b ∧ ¬ b = T3 ∧ ¬ b = P) keepsE row5 (Sh.of_fr (st8_fr y5 T3 (.int .i64 19) (.int .i64 u.at') (.string ⟨#[]⟩) (.int .i64 (numberOf u.text)) (.string ⟨#[]⟩) (.slice none 0 0) (.slice (some ⟨y4.heap.size, 0, none⟩) 2 2) (.slice none 0 0)) (fun b hb hlt => ⟨hb, by simp; exact hb.2.1⟩)))
    unfold st8 at HG HB0 HF HP HS HX0 HW0
    go_wp2_with fail
    generalize (((((((y5.setCell ⟨T3, 0, none⟩ (.int .i64 19)).setCell ⟨T3, 1, none⟩ (.int .i64 u.at')).setCell ⟨T3, 2, none⟩ (.string ⟨#[]⟩)).setCell ⟨T3, 3, none⟩ (.int .i64 (numberOf u.text))).setCell ⟨T3, 4, none⟩ (.string ⟨#[]⟩)).setCell ⟨T3, 5, none⟩ (.slice none 0 0)).setCell ⟨T3, 6, none⟩ (.slice (some ⟨y4.heap.size, 0, none⟩) 2 2)).setCell ⟨T3, 7, none⟩ (.slice none 0 0) = Z at HG HB0 HF HP HS HX0 HW0 ⊢
    have hZ4 := lt_of_heap HG.out
    have hxx := ExprAt.of_rows (k := 19) (a := u.at') (nm := []) (n := numberOf u.text) (s := []) (c5 := fun _ => []) (c7 := fun _ => []) RowG.nil_ HW0.out RowG.nil_
    have hPz := HP.out
    have hpl := hPz.pl
    have hpl0 := h0.pl
    have hin0 := h0.inb
    simp only at hle2
    go_roundw
    case rel => exact ⟨19, u.at', [], numberOf u.text, [], [], [(.mk k0 a0 nm0 n0 s0 ls0 args0 arms0), (.mk k2 a2 nm2 n2 s2 ls2 args2 arms2)], [], none, 0, 0, some ⟨y4.heap.size, 0, none⟩, 2, 2, none, 0, 0, st2, HF.out, hBT, by exact hZ4, HB0.out, HG.out, hxx, hPz, by omega, Lib.hid (fun x st' h => HR.out _ _ (.look hu (by rw [if_pos hc]; exact .adv (.callE hr2 (.callE h .retE)))))⟩
    case measure => rw [hpl, hpl0]; omega
end Go.Proofs.YtpjkfeehgookkaaGreatDoor
namespace Go.Proofs.YtpjkfeehgookkaaGreatDoor
open Go.RowKit
attribute [local go_sem ↓] Go.wp_at_zero Go.wp_at_succ
set_option maxHeartbeats 8000000 in
set_option maxRecDepth 100000 in
theorem cmp_step (ts : List Tok) (hE : EndOk ts) (N : Nat) (ih : AllE ts N) : GE ts (N + 1) 9 .cmp 113 := by
 intro P g c st w h hm
 have H := Lib.hid h
 have hP := lt_of_heap h.blk
 have hgl := h.lt
 have hin := h.inb
 have HN := Lib.hid hm
 have HE := Lib.hid hE
 have IH := Lib.hid ih
 clear h hm hE ih
 go_enter Tryz.func113, Tryz.ntmps113
 go_wp2_with fail
 have f0 : Fr [] w (w.alloc (.cells #[.int .i64 0, .int .i64 0, .string ⟨#[]⟩, .int .i64 0, .string ⟨#[]⟩, .slice none 0 0, .slice none 0 0, .slice none 0 0] 27)) := (Fr.refl [] w).alloc _
 have g0 := heap_new w (.cells #[.int .i64 0, .int .i64 0, .string ⟨#[]⟩, .int .i64 0, .string ⟨#[]⟩, .slice none 0 0, .slice none 0 0, .slice none 0 0] 27)
 generalize w.alloc (.cells #[.int .i64 0, .int .i64 0, .string ⟨#[]⟩, .int .i64 0, .string ⟨#[]⟩, .slice none 0 0, .slice none 0 0, .slice none 0 0] 27) = w1 at *
 generalize hB : w.heap.size = B at *
 have hB1 := lt_of_heap g0
 have nP : ¬ P = B := by omega
 have nB : ¬ B = P := by omega
 have ng : ¬ g = B := by omega
 refine (IH.out.sum P g c st w1 (H.out.fr f0) (by have := HN.out; omega)).mono ?_
 rintro e x1 ⟨k1, a1, nm1, n1, s1, ls1, args1, arms1, A51, n51, c51, A61, n61, c61, A71, n71, c71, st1, rfl, hx1, hr1, hst1, f1⟩
 have g0 := f1.keep g0 (by simpa using nB)
 have hs1 := f1.size
 have F1 : Fr [P] w x1 := (f0.mono (fun x hx => by cases hx)).trans f1
 go_wp2_with fail
 have q1 := heap_new x1 (.cells #[.int .i64 k1, .int .i64 a1, .string ⟨nm1.toArray⟩, .int .i64 n1, .string ⟨s1.toArray⟩, .slice A51 n51 c51, .slice A61 n61 c61, .slice A71 n71 c71] 27)
 have fb1 : Fr [] x1 (x1.alloc (.cells #[.int .i64 k1, .int .i64 a1, .string ⟨nm1.toArray⟩, .int .i64 n1, .string ⟨s1.toArray⟩, .slice A51 n51 c51, .slice A61 n61 c61, .slice A71 n71 c71] 27)) := (Fr.refl [] x1).alloc _
 generalize hY1 : x1.alloc (.cells #[.int .i64 k1, .int .i64 a1, .string ⟨nm1.toArray⟩, .int .i64 n1, .string ⟨s1.toArray⟩, .slice A51 n51 c51, .slice A61 n61 c61, .slice A71 n71 c71] 27) = x2 at *
 have hT1 := lt_of_heap q1
 generalize hTT1 : x1.heap.size = T3 at *
 have g0 := fb1.keep g0 (fun x => by cases x)
 have h2 := hst1.fr fb1
 have F2 := F1.trans0 fb1
 have hx1 := hx1.keep (ok' := fun b => B < b ∧ ¬ b = T3) (Sh.of_fr fb1 (fun b hb hlt => ⟨⟨by omega, by omega⟩, fun x => by cases x⟩))
 obtain ⟨t, ht⟩ := tok_at hst1.inb
 refine (now_any P g c ts st1 t ht x2 h2 HE.out).mono ?_
 rintro e x3 ⟨rfl, f3⟩
 go_wp2_with fail
 have q4 := heap_new x3 (.cells #[.int .i64 t.k, .int .i64 t.at', .string ⟨t.text.toArray⟩, .int .i64 t.n] 46)
 have fb4 : Fr [] x3 (x3.alloc (.cells #[.int .i64 t.k, .int .i64 t.at', .string ⟨t.text.toArray⟩, .int .i64 t.n] 46)) := (Fr.refl [] x3).alloc _
 generalize hY4 : x3.alloc (.cells #[.int .i64 t.k, .int .i64 t.at', .string ⟨t.text.toArray⟩, .int .i64 t.n] 46) = x4 at *
 have hT4 := lt_of_heap q4
 generalize hTT4 : x3.heap.size = T4 at *
 have f4 := f3.trans fb4
 have g0 := f4.keep g0 (fun x => by cases x)
 have q1 := f4.keep q1 (fun x => by cases x)
 have h4 := h2.fr f4
 have F4 := F2.trans0 f4
 have hs3 := f3.size
 have hx1 := hx1.keep (ok' := fun b => B < b ∧ ¬ b = T3 ∧ ¬ b = T4) (Sh.of_fr f4 (fun b hb hlt => ⟨⟨hb.1, hb.2, by omega⟩, fun x => by cases x⟩))
 have fa := (Fr.refl [] x4).alloc (.cells #[.string ⟨[61].toArray⟩, .string ⟨[60].toArray⟩] 9)
 have hSt : StrsR x4.heap.size [[61], [60]] (x4.alloc (.cells #[.string ⟨[61].toArray⟩, .string ⟨[60].toArray⟩] 9)) := StrsR.lit x4 [[61], [60]] _
 have hz4 : x4.heap.size = T4 + 1 := by rw [← hY4, ← hTT4]; simp
 rw [hz4] at hSt
 have ci := fun cl => Lib.hid (is_any P g c ts st1 t ht (T4 + 1) cl [[61], [60]] (by simp) (x4.alloc (.cells #[.string ⟨[61].toArray⟩, .string ⟨[60].toArray⟩] 9)) (h4.fr fa) hSt (by simp [hz4]) HE.out)
 clear hSt hz4
 have hle := hr1.le
 cases hb : isB t st1.ok [[61], [60]] with
 | false =>
  rw [hb] at ci
  refine (ci _).out.mono ?_
  rintro e x5 ⟨rfl, f5⟩
  have f5 := fa.trans f5
  have g0 := f5.keep g0 (fun x => by cases x)
  obtain ⟨⟨l0, l1, l2, l3, l4, l5, l6, l7⟩, _⟩ := cells8 (f5.keep q1 (fun x => by cases x))
  have h5 := h4.fr f5
  have hx1 := hx1.keep (ok' := fun b => B < b) (Sh.of_fr f5 (fun b hb hlt => ⟨hb.1, fun x => by cases x⟩))
  have HG := Lib.hid (st8_heap g0 (.int .i64 k1) (.int .i64 a1) (.string ⟨nm1.toArray⟩) (.int .i64 n1) (.string ⟨s1.toArray⟩) (.slice A51 n51 c51) (.slice A61 n61 c61) (.slice A71 n71 c71))
  have HF := Lib.hid ((F4.trans0 f5).step (st8_fr x5 B (.int .i64 k1) (.int .i64 a1) (.string ⟨nm1.toArray⟩) (.int .i64 n1) (.string ⟨s1.toArray⟩) (.slice A51 n51 c51) (.slice A61 n61 c61) (.slice A71 n71 c71)) (fun x hx => .inr (by simp at hx; omega)))
  have HP := Lib.hid ((h5).frL (st8_fr x5 B (.int .i64 k1) (.int .i64 a1) (.string ⟨nm1.toArray⟩) (.int .i64 n1) (.string ⟨s1.toArray⟩) (.slice A51 n51 c51) (.slice A61 n61 c61) (.slice A71 n71 c71)) (by simpa using nP) (by simpa using ng))
  have HX : Hid (ExprAt (st8 x5 B (.int .i64 k1) (.int .i64 a1) (.string ⟨nm1.toArray⟩) (.int .i64 n1) (.string ⟨s1.toArray⟩) (.slice A51 n51 c51) (.slice A61 n61 c61) (.slice A71 n71 c71)) (fun b => B ≤ b) (.mk k1 a1 nm1 n1 s1 ls1 args1 arms1) [.int .i64 k1, .int .i64 a1, .string ⟨nm1.toArray⟩, .int .i64 n1, .string ⟨s1.toArray⟩, .slice A51 n51 c51, .slice A61 n61 c61, .slice A71 n71 c71]) := Lib.hid ((hx1).keep (Sh.of_fr (st8_fr x5 B (.int .i64 k1) (.int .i64 a1) (.string ⟨nm1.toArray⟩) (.int .i64 n1) (.string ⟨s1.toArray⟩) (.slice A51 n51 c51) (.slice A61 n61 c61) (.slice A71 n71 c71)) (fun b hb hlt => ⟨by omega, by simp; omega⟩)))
  unfold st8 at HG HF HP HX
  obtain ⟨⟨u0, u1, u2, u3, u4, u5, u6, u7⟩, z0, z1, z2, z3, z4, z5, z6, z7⟩ := cells8 g0
  go_wp2_with fail
  generalize (((((((x5.setCell ⟨B, 0, none⟩ (.int .i64 k1)).setCell ⟨B, 1, none⟩ (.int .i64 a1)).setCell ⟨B, 2, none⟩ (.string ⟨nm1.toArray⟩)).setCell ⟨B, 3, none⟩ (.int .i64 n1)).setCell ⟨B, 4, none⟩ (.string ⟨s1.toArray⟩)).setCell ⟨B, 5, none⟩ (.slice A51 n51 c51)).setCell ⟨B, 6, none⟩ (.slice A61 n61 c61)).setCell ⟨B, 7, none⟩ (.slice A71 n71 c71) = Z at HG HF HP HX ⊢
  obtain ⟨⟨d0, d1, d2, d3, d4, d5, d6, d7⟩, _⟩ := cells8 HG.out
  refine bodyPost_ret (v := .agg #[.int .i64 k1, .int .i64 a1, .string ⟨nm1.toArray⟩, .int .i64 n1, .string ⟨s1.toArray⟩, .slice A51 n51 c51, .slice A61 n61 c61, .slice A71 n71 c71]) ?_ rfl ?_
  ·simp [results, Tryz.f113, go_sem, d0, d1, d2, d3, d4, d5, d6, d7]
  ·exact ⟨_, _, _, _, _, _, _, _, _, _, _, _, _, _, _, _, _, _, rfl, by rw [hB]; exact HX.out, .callE hr1 (.look ht (by rw [if_neg (by rw [hb]; decide)]; exact .retE)), HP.out, HF.out⟩
 | true =>
  rw [hb] at ci
  have HK := Lib.hid (isB_ok hb)
  refine (ci _).out.mono ?_
  rintro e y5 ⟨rfl, f5⟩
  have f5 := fa.trans f5
  go_wp2_with fail
  refine (next_any P g c ts st1 t ht HK.out.1 HK.out.2 y5 (h4.fr f5) HE.out).mono ?_
  rintro e x5 ⟨rfl, h5, f5'⟩
  have f5 := (f5.mono (L' := [P]) (fun x hx => by cases hx)).trans f5'
  have g0 := f5.keep g0 (by simpa using nB)
  have q1 := f5.keep q1 (by simp; omega)
  have q4 := f5.keep q4 (by simp; omega)
  have hs5 := f5.size
  have F5 := F4.trans f5
  have hx1 := hx1.keep (ok' := fun b => B < b ∧ ¬ b = T3 ∧ ¬ b = T4 ∧ ¬ b = P ∧ b < x5.heap.size) (Sh.of_fr f5 (fun b hb hlt => ⟨⟨hb.1, hb.2.1, hb.2.2, by omega, by omega⟩, by simp; omega⟩))
  obtain ⟨⟨l0, l1, l2, l3, l4, l5, l6, l7⟩, _⟩ := cells8 q1
  obtain ⟨m0, m1, m2, m3, _⟩ := cells4 q4
  have cE := fun W hW => Lib.hid (IH.out.sum P g c ⟨st1.i + 1, st1.ok⟩ W hW (by have := HN.out; have := h5.inb; simp only at this ⊢; omega))
  go_wp2_with fail
  have n34 : ¬ T3 = T4 := by omega
  have n3B : ¬ T3 = B := by omega
  have nB3 : ¬ B = T3 := by omega
  have n4B : ¬ T4 = B := by omega
  have nB4 : ¬ B = T4 := by omega
  clear fb1 fb4 f1 f3 f4 h2 h4 F1 F2 F4 hst1 H ci fa f5' hY1 hY4
  go_region_held3 (fun w' => (w'.cell? ⟨T4, 0, none⟩ = some (.int .i64 t.k) ∧ w'.cell? ⟨T4, 1, none⟩ = some (.int .i64 t.at') ∧ w'.cell? ⟨T4, 2, none⟩ = some (.string ⟨t.text.toArray⟩) ∧ w'.cell? ⟨T4, 3, none⟩ = some (.int .i64 t.n)) ∧ (w'.cell? ⟨T3, 0, none⟩ = some (.int .i64 k1) ∧ w'.cell? ⟨T3, 1, none⟩ = some (.int .i64 a1) ∧ w'.cell? ⟨T3, 2, none⟩ = some (.string ⟨nm1.toArray⟩) ∧ w'.cell? ⟨T3, 3, none⟩ = some (.int .i64 n1) ∧ w'.cell? ⟨T3, 4, none⟩ = some (.string ⟨s1.toArray⟩) ∧ w'.cell? ⟨T3, 5, none⟩ = some (.slice A51 n51 c51) ∧ w'.cell? ⟨T3, 6, none⟩ = some (.slice A61 n61 c61) ∧ w'.cell? ⟨T3, 7, none⟩ = some (.slice A71 n71 c71))) (go_keep) ((first | ((with_reducible refine (number_any t.text _).mono ?_); rintro e w9 ⟨rfl, rfl⟩) | ((with_reducible refine (cE _ (h5.fr (Fr.refl [] x5).drew)).out.mono ?_); rintro e x6 ⟨k2, a2, nm2, n2, s2, ls2, args2, arms2, A52, n52, c52, A62, n62, c62, A72, n72, c72, st2, rfl, hx2, hr2, hst2, f6⟩; have Q1 := f6.keep (w := x5.drew) q1 (by simp; omega); have Q4 := f6.keep (w := x5.drew) q4 (by simp; omega); have G6 := f6.keep (w := x5.drew) g0 (by simpa using nB); have hT36 := lt_of_heap Q1; have hT46 := lt_of_heap Q4; have hB6 := lt_of_heap G6; have M3 := (cells8 Q1).1; have M4 := cells4 Q4) | ((with_reducible refine (op_any _ t _ _ _ _).mono ?_); rintro e x7 ⟨rfl, f7⟩; have R1 := f7.keep (heap_old Q1 (.cells #[.int .i64 k1, .int .i64 a1, .string ⟨nm1.toArray⟩, .int .i64 n1, .string ⟨s1.toArray⟩, .slice A51 n51 c51, .slice A61 n61 c61, .slice A71 n71 c71, .int .i64 k2, .int .i64 a2, .string ⟨nm2.toArray⟩, .int .i64 n2, .string ⟨s2.toArray⟩, .slice A52 n52 c52, .slice A62 n62 c62, .slice A72 n72 c72] 27)) (fun x => by cases x); have R4 := f7.keep (heap_old Q4 (.cells #[.int .i64 k1, .int .i64 a1, .string ⟨nm1.toArray⟩, .int .i64 n1, .string ⟨s1.toArray⟩, .slice A51 n51 c51, .slice A61 n61 c61, .slice A71 n71 c71, .int .i64 k2, .int .i64 a2, .string ⟨nm2.toArray⟩, .int .i64 n2, .string ⟨s2.toArray⟩, .slice A52 n52 c52, .slice A62 n62 c62, .slice A72 n72 c72] 27)) (fun x => by cases x); have G7 := f7.keep (heap_old G6 (.cells #[.int .i64 k1, .int .i64 a1, .string ⟨nm1.toArray⟩, .int .i64 n1, .string ⟨s1.toArray⟩, .slice A51 n51 c51, .slice A61 n61 c61, .slice A71 n71 c71, .int .i64 k2, .int .i64 a2, .string ⟨nm2.toArray⟩, .int .i64 n2, .string ⟨s2.toArray⟩, .slice A52 n52 c52, .slice A62 n62 c62, .slice A72 n72 c72] 27)) (fun x => by cases x); have hT37 := lt_of_heap R1; have hT47 := lt_of_heap R4; have hB7 := lt_of_heap G7; have M5 := (cells8 R1).1; have M6 := cells4 R4; obtain ⟨⟨u0, u1, u2, u3, u4, u5, u6, u7⟩, z0, z1, z2, z3, z4, z5, z6, z7⟩ := cells8 G7)))
  all_goals
   clear M3 M4 M5 M6 u0 u1 u2 u3 u4 u5 u6 u7 z0 z1 z2 z3 z4 z5 z6 z7 l0 l1 l2 l3 l4 l5 l6 l7 m0 m1 m2 m3
   have f6 : Fr [P] x5 x6 := ((Fr.refl [P] x5).drew).trans f6
   have f7 : Fr [] (x6.alloc (.cells #[.int .i64 k1, .int .i64 a1, .string ⟨nm1.toArray⟩, .int .i64 n1, .string ⟨s1.toArray⟩, .slice A51 n51 c51, .slice A61 n61 c61, .slice A71 n71 c71, .int .i64 k2, .int .i64 a2, .string ⟨nm2.toArray⟩, .int .i64 n2, .string ⟨s2.toArray⟩, .slice A52 n52 c52, .slice A62 n62 c62, .slice A72 n72 c72] 27)) x7 := f7
   have hs6 := f6.size
   have hx1 := hx1.keep (ok' := fun b => B < b ∧ ¬ b = P) (Sh.of_fr f6 (fun b hb hlt => ⟨⟨hb.1, hb.2.2.2.1⟩, by simp; exact hb.2.2.2.1⟩))
   have hx2 := hx2.keep (ok' := fun b => B < b ∧ ¬ b = P) (Sh.of_fr (Fr.refl [] x6) (fun b hb hlt => ⟨by have : x5.heap.size ≤ b := hb; exact ⟨by omega, by omega⟩, fun x => by cases x⟩))
   have row6 := RowG.lit2 keepsE (T := 27) (size := 8) (ok := fun b => B < b ∧ ¬ b = P) hx1 hx2 rfl rfl (by exact ⟨by omega, by omega⟩)
   have row7 := RowG.keep (ok' := fun b => B < b) keepsE row6 (Sh.of_fr f7 (fun b hb hlt => ⟨hb.1, fun x => by cases x⟩))
   have HG := Lib.hid (st8_heap G7 (.int .i64 19) (.int .i64 t.at') (.string ⟨#[]⟩) (.int .i64 (numberOf t.text)) (.string ⟨#[]⟩) (.slice none 0 0) (.slice (some ⟨x6.heap.size, 0, none⟩) 2 2) (.slice none 0 0))
   have HF := Lib.hid ((F5.trans (f6.trans0 (((Fr.refl [] x6).alloc _).trans f7))).step (st8_fr x7 B (.int .i64 19) (.int .i64 t.at') (.string ⟨#[]⟩) (.int .i64 (numberOf t.text)) (.string ⟨#[]⟩) (.slice none 0 0) (.slice (some ⟨x6.heap.size, 0, none⟩) 2 2) (.slice none 0 0)) (fun x hx => .inr (by simp at hx; omega)))
   have HP := Lib.hid (((hst2.fr (((Fr.refl [] x6).alloc _).trans f7))).frL (st8_fr x7 B (.int .i64 19) (.int .i64 t.at') (.string ⟨#[]⟩) (.int .i64 (numberOf t.text)) (.string ⟨#[]⟩) (.slice none 0 0) (.slice (some ⟨x6.heap.size, 0, none⟩) 2 2) (.slice none 0 0)) (by simpa using nP) (by simpa using ng))
   have HR := Lib.hid (RowG.keep (ok' := fun b => B ≤ b) keepsE row7 (Sh.of_fr (st8_fr x7 B (.int .i64 19) (.int .i64 t.at') (.string ⟨#[]⟩) (.int .i64 (numberOf t.text)) (.string ⟨#[]⟩) (.slice none 0 0) (.slice (some ⟨x6.heap.size, 0, none⟩) 2 2) (.slice none 0 0)) (fun b hb hlt => ⟨by omega, by simp; omega⟩)))
   unfold st8 at HG HF HP HR
   go_wp2_with fail
   generalize (((((((x7.setCell ⟨B, 0, none⟩ (.int .i64 19)).setCell ⟨B, 1, none⟩ (.int .i64 t.at')).setCell ⟨B, 2, none⟩ (.string ⟨#[]⟩)).setCell ⟨B, 3, none⟩ (.int .i64 (numberOf t.text))).setCell ⟨B, 4, none⟩ (.string ⟨#[]⟩)).setCell ⟨B, 5, none⟩ (.slice none 0 0)).setCell ⟨B, 6, none⟩ (.slice (some ⟨x6.heap.size, 0, none⟩) 2 2)).setCell ⟨B, 7, none⟩ (.slice none 0 0) = Z at HG HF HP HR ⊢
   obtain ⟨⟨d0, d1, d2, d3, d4, d5, d6, d7⟩, _⟩ := cells8 HG.out
   have hxx := ExprAt.of_rows (k := 19) (a := t.at') (nm := []) (n := numberOf t.text) (s := []) (c5 := fun _ => []) (c7 := fun _ => []) RowG.nil_ HR.out RowG.nil_
   refine bodyPost_ret (v := .agg #[.int .i64 19, .int .i64 t.at', .string ⟨#[]⟩, .int .i64 (numberOf t.text), .string ⟨#[]⟩, .slice none 0 0, .slice (some ⟨x6.heap.size, 0, none⟩) 2 2, .slice none 0 0]) ?_ rfl ?_
   ·simp [results, Tryz.f113, go_sem, d0, d1, d2, d3, d4, d5, d6, d7]
   ·exact ⟨_, _, _, _, _, _, _, _, _, _, _, _, _, _, _, _, _, _, rfl, by rw [hB]; exact hxx, .callE hr1 (.look ht (by rw [if_pos hb]; exact .adv (.callE hr2 .retE))), HP.out, HF.out⟩
end Go.Proofs.YtpjkfeehgookkaaGreatDoor
namespace Go.Proofs.YtpjkfeehgookkaaGreatDoor
open Go.RowKit
theorem begins_kind {t : Tok} {ok : Bool} (h : t.k = 1 ∨ t.k = 2 ∨ t.k = 4 ∨ t.k = 5) : beginsB t ok = ok := by
 have hw : wordT t = false := by
  unfold wordT
  rcases h with h | h | h | h <;> rw [h] <;> rfl
 unfold beginsB isB
 rw [hw]
 rcases h with h | h | h | h <;> rw [h] <;> cases ok <;> rfl
theorem begins_word {t : Tok} {ok : Bool} (h1 : (t.k == 1) = false) (h2 : (t.k == 2) = false) (h4 : (t.k == 4) = false) (h5 : (t.k == 5) = false) : beginsB t ok = isB t ok [[116, 114, 117, 101], [102, 97, 108, 115, 101], [40], [123], [33]] := by
 unfold beginsB
 rw [h1, h2, h4, h5]
 simp
set_option maxHeartbeats 1000000 in
set_option maxRecDepth 100000 in
theorem begins_any (P g c : Nat) (ts : List Tok) (st : St) (t : Tok) (ht : ts[st.i]? = some t) (w : World) (h : PSt P g c ts st w) (hE : EndOk ts) :
  Calls Tryz.prog 111 #[.pointer (some ⟨P, 0, none⟩)] w fun e w' => e = .returned (.bool (beginsB t st.ok)) ∧ Fr [] w w' := by
 have H := Lib.hid h
 have HE := Lib.hid hE
 have hP := lt_of_heap h.blk
 have cn := fun w h => Lib.hid (now_any P g c ts st t ht w h hE)
 have r0 := tok_f0
 clear h hE
 by_cases hk : t.k = 1 ∨ t.k = 2 ∨ t.k = 4 ∨ t.k = 5
 ·rw [begins_kind hk]
  clear ht
  obtain ⟨i, ok⟩ := st
  obtain ⟨tk, ta, tt, tn⟩ := t
  simp only at hk cn ⊢
  rcases hk with hk | hk | hk | hk
  all_goals
   subst hk
   go_enter Tryz.func111, Tryz.ntmps111
   go_wp2_with fail
   refine (cn _ H.out).out.mono ?_; rintro e x1 ⟨rfl, f1⟩
   have h1 := H.out.fr f1
   have hP1 := lt_of_heap h1.blk
   obtain ⟨p0, p1, p2, _⟩ := cells3 h1.blk
   clear h1
   go_wp2_with fail
   go_ret
   exact ⟨rfl, f1⟩
 ·have h1 : (t.k == 1) = false := by rw [beq_eq_false_iff_ne]; exact fun e => hk (.inl e)
  have h2 : (t.k == 2) = false := by rw [beq_eq_false_iff_ne]; exact fun e => hk (.inr (.inl e))
  have h4 : (t.k == 4) = false := by rw [beq_eq_false_iff_ne]; exact fun e => hk (.inr (.inr (.inl e)))
  have h5 : (t.k == 5) = false := by rw [beq_eq_false_iff_ne]; exact fun e => hk (.inr (.inr (.inr e)))
  rw [begins_word h1 h2 h4 h5]
  clear hk
  have ci := fun (x : World) (f : Fr [] w x) cl => Lib.hid (is_any P g c ts st t ht x.heap.size cl [[116, 114, 117, 101], [102, 97, 108, 115, 101], [40], [123], [33]] (by simp) (x.alloc (.cells #[.string ⟨[116, 114, 117, 101].toArray⟩, .string ⟨[102, 97, 108, 115, 101].toArray⟩, .string ⟨[40].toArray⟩, .string ⟨[123].toArray⟩, .string ⟨[33].toArray⟩] 9)) (H.out.fr (f.alloc _)) (StrsR.lit x [[116, 114, 117, 101], [102, 97, 108, 115, 101], [40], [123], [33]] _) (by simp) HE.out)
  generalize isB t st.ok [[116, 114, 117, 101], [102, 97, 108, 115, 101], [40], [123], [33]] = R at *
  clear ht
  obtain ⟨i, ok⟩ := st
  obtain ⟨tk, ta, tt, tn⟩ := t
  simp only at h1 h2 h4 h5 cn ⊢
  go_enter Tryz.func111, Tryz.ntmps111
  go_wp2_with fail
  refine (cn _ H.out).out.mono ?_; rintro e x1 ⟨rfl, f1⟩
  have hc := ci x1 f1
  go_wp2_with fail
  refine (hc _).out.mono ?_; rintro e x2 ⟨rfl, f2⟩; go_wp2_with fail
  go_ret
  exact ⟨rfl, (f1.alloc _).trans f2⟩
end Go.Proofs.YtpjkfeehgookkaaGreatDoor
namespace Go.Proofs.YtpjkfeehgookkaaGreatDoor
open Go.RowKit
attribute [local go_sem ↓] Go.wp_at_zero Go.wp_at_succ
theorem begins_ok {t : Tok} {ok : Bool} (h : beginsB t ok = true) : ok = true ∧ t.k ≠ 0 := by
 unfold beginsB at h
 simp only [Bool.or_eq_true, Bool.and_eq_true, beq_iff_eq] at h
 rcases h with h | h
 ·exact ⟨h.1, by omega⟩
 ·exact isB_ok h
theorem ExprAt.leaf (w : World) (ok : Nat → Prop) (k a : Int) (nm : List UInt8) (n : Int) (s : List UInt8) : ExprAt w ok (.mk k a nm n s [] [] []) [.int .i64 k, .int .i64 a, .string ⟨nm.toArray⟩, .int .i64 n, .string ⟨s.toArray⟩, .slice none 0 0, .slice none 0 0, .slice none 0 0] :=
 ExprAt.of_rows (c5 := fun _ => []) (c6 := fun _ => []) (c7 := fun _ => []) RowG.nil_ RowG.nil_ RowG.nil_
def GB (ts : List Tok) (N : Nat) : Prop := ∀ (P g c : Nat) (st : St) (a : Int) (w : World), PSt P g c ts st w → 16 * (ts.length - st.i) + 14 < N → Calls Tryz.prog 112 #[.pointer (some ⟨P, 0, none⟩), .agg #[.int .i64 0, .int .i64 a, .string ⟨#[]⟩, .int .i64 0, .string ⟨#[]⟩, .slice none 0 0, .slice none 0 0, .slice none 0 0]] w (ExOk P g c ts st (body (.braces a)) w)
set_option maxHeartbeats 8000000 in
set_option maxRecDepth 100000 in
theorem atom_step (ts : List Tok) (hE : EndOk ts) (N : Nat) (ih : AllE ts N) (ihB : GB ts N) : GE ts (N + 1) 3 .atom 85 := by
 have IHB := Lib.hid ihB
 clear ihB
 intro P g c st w h hm
 have H := Lib.hid h
 have hP := lt_of_heap h.blk
 have hgl := h.lt
 have hin := h.inb
 have HN := Lib.hid hm
 have HE := Lib.hid hE
 have IH := Lib.hid ih
 clear h hm hE ih
 go_enter Tryz.func85, Tryz.ntmps85
 go_wp2_with fail
 have f0 : Fr [] w (w.alloc (.cells #[.int .i64 0, .int .i64 0, .string ⟨#[]⟩, .int .i64 0, .string ⟨#[]⟩, .slice none 0 0, .slice none 0 0, .slice none 0 0] 27)) := (Fr.refl [] w).alloc _
 have g0 := heap_new w (.cells #[.int .i64 0, .int .i64 0, .string ⟨#[]⟩, .int .i64 0, .string ⟨#[]⟩, .slice none 0 0, .slice none 0 0, .slice none 0 0] 27)
 generalize w.alloc (.cells #[.int .i64 0, .int .i64 0, .string ⟨#[]⟩, .int .i64 0, .string ⟨#[]⟩, .slice none 0 0, .slice none 0 0, .slice none 0 0] 27) = w1 at *
 generalize hB : w.heap.size = B at *
 have hB1 := lt_of_heap g0
 have nP : ¬ P = B := by omega
 have nB : ¬ B = P := by omega
 have ng : ¬ g = B := by omega
 have h0 := H.out.fr f0
 obtain ⟨t, ht⟩ := tok_at hin
 refine (begins_any P g c ts st t ht w1 h0 HE.out).mono ?_
 rintro e x1 ⟨rfl, f1⟩
 have g0 := f1.keep g0 (fun x => by cases x)
 have h1 := h0.fr f1
 have fa := (Fr.refl [] x1).alloc (.cells #[.string ⟨[33].toArray⟩] 9)
 have ci := fun cl => Lib.hid (is_any P g c ts st t ht x1.heap.size cl [[33]] (by simp) (x1.alloc (.cells #[.string ⟨[33].toArray⟩] 9)) (h1.fr fa) (StrsR.one x1 [33] _) (by simp) HE.out)
 cases hb : beginsB t st.ok with
 | false =>
  go_wp2_with fail
  have f2 := f1
  have hx := h1
  refine (fail_any P g c ts st x1 h1 ).mono ?_
  rintro e y3 ⟨rfl, h3, f3⟩
  have g0 := f3.keep g0 (by simpa using nB)
  have F3 : Fr [P] w y3 := ((f0.trans f2).mono (fun x hx => by cases hx)).trans f3
  clear fa ci
  have HG := Lib.hid (st8_heap g0 (.int .i64 0) (.int .i64 0) (.string ⟨#[]⟩) (.int .i64 0) (.string ⟨#[]⟩) (.slice none 0 0) (.slice none 0 0) (.slice none 0 0))
  have HF := Lib.hid ((F3).step (st8_fr y3 B (.int .i64 0) (.int .i64 0) (.string ⟨#[]⟩) (.int .i64 0) (.string ⟨#[]⟩) (.slice none 0 0) (.slice none 0 0) (.slice none 0 0)) (fun x hx => .inr (by simp at hx; omega)))
  have HP := Lib.hid ((h3).frL (st8_fr y3 B (.int .i64 0) (.int .i64 0) (.string ⟨#[]⟩) (.int .i64 0) (.string ⟨#[]⟩) (.slice none 0 0) (.slice none 0 0) (.slice none 0 0)) (by simpa using nP) (by simpa using ng))
  have HX : Hid (ExprAt (st8 y3 B (.int .i64 0) (.int .i64 0) (.string ⟨#[]⟩) (.int .i64 0) (.string ⟨#[]⟩) (.slice none 0 0) (.slice none 0 0) (.slice none 0 0)) (fun b => B ≤ b) (.mk 0 0 [] 0 [] [] [] []) [.int .i64 0, .int .i64 0, .string ⟨#[]⟩, .int .i64 0, .string ⟨#[]⟩, .slice none 0 0, .slice none 0 0, .slice none 0 0]) := Lib.hid (((ExprAt.leaf y3 (fun b => B < b) 0 0 [] 0 [])).keep (Sh.of_fr (st8_fr y3 B (.int .i64 0) (.int .i64 0) (.string ⟨#[]⟩) (.int .i64 0) (.string ⟨#[]⟩) (.slice none 0 0) (.slice none 0 0) (.slice none 0 0)) (fun b hb hlt => ⟨by omega, by simp; omega⟩)))
  unfold st8 at HG HF HP HX
  obtain ⟨⟨u0, u1, u2, u3, u4, u5, u6, u7⟩, z0, z1, z2, z3, z4, z5, z6, z7⟩ := cells8 g0
  go_wp2_with fail
  generalize (((((((y3.setCell ⟨B, 0, none⟩ (.int .i64 0)).setCell ⟨B, 1, none⟩ (.int .i64 0)).setCell ⟨B, 2, none⟩ (.string ⟨#[]⟩)).setCell ⟨B, 3, none⟩ (.int .i64 0)).setCell ⟨B, 4, none⟩ (.string ⟨#[]⟩)).setCell ⟨B, 5, none⟩ (.slice none 0 0)).setCell ⟨B, 6, none⟩ (.slice none 0 0)).setCell ⟨B, 7, none⟩ (.slice none 0 0) = Z at HG HF HP HX ⊢
  obtain ⟨⟨d0, d1, d2, d3, d4, d5, d6, d7⟩, _⟩ := cells8 HG.out
  refine bodyPost_ret (v := .agg #[.int .i64 0, .int .i64 0, .string ⟨#[]⟩, .int .i64 0, .string ⟨#[]⟩, .slice none 0 0, .slice none 0 0, .slice none 0 0]) ?_ rfl ?_
  ·simp [results, Tryz.f85, go_sem, d0, d1, d2, d3, d4, d5, d6, d7]
  ·exact ⟨_, _, _, _, _, _, _, _, _, _, _, _, _, _, _, _, _, _, rfl, by rw [hB]; exact HX.out, by unfold body; exact .look ht (by rw [hb]; exact .fail .retE), HP.out, HF.out⟩
 | true =>
  have HK0 := Lib.hid (begins_ok hb)
  cases hb2 : isB t st.ok [[33]] with
  | true =>
   rw [hb2] at ci
   go_wp2_with fail
   refine (ci _).out.mono ?_; rintro e y2 ⟨rfl, f2⟩; go_wp2_with fail
   have f2 := fa.trans f2
   have h1 := h1.fr f2
   have g0 := f2.keep g0 (fun x => by cases x)
   have f2 := f1.trans f2
   refine (fail_any P g c ts st y2 h1 ).mono ?_
   rintro e y3 ⟨rfl, h3, f3⟩
   have g0 := f3.keep g0 (by simpa using nB)
   have F3 : Fr [P] w y3 := ((f0.trans f2).mono (fun x hx => by cases hx)).trans f3
   clear fa ci
   have HG := Lib.hid (st8_heap g0 (.int .i64 0) (.int .i64 0) (.string ⟨#[]⟩) (.int .i64 0) (.string ⟨#[]⟩) (.slice none 0 0) (.slice none 0 0) (.slice none 0 0))
   have HF := Lib.hid ((F3).step (st8_fr y3 B (.int .i64 0) (.int .i64 0) (.string ⟨#[]⟩) (.int .i64 0) (.string ⟨#[]⟩) (.slice none 0 0) (.slice none 0 0) (.slice none 0 0)) (fun x hx => .inr (by simp at hx; omega)))
   have HP := Lib.hid ((h3).frL (st8_fr y3 B (.int .i64 0) (.int .i64 0) (.string ⟨#[]⟩) (.int .i64 0) (.string ⟨#[]⟩) (.slice none 0 0) (.slice none 0 0) (.slice none 0 0)) (by simpa using nP) (by simpa using ng))
   have HX : Hid (ExprAt (st8 y3 B (.int .i64 0) (.int .i64 0) (.string ⟨#[]⟩) (.int .i64 0) (.string ⟨#[]⟩) (.slice none 0 0) (.slice none 0 0) (.slice none 0 0)) (fun b => B ≤ b) (.mk 0 0 [] 0 [] [] [] []) [.int .i64 0, .int .i64 0, .string ⟨#[]⟩, .int .i64 0, .string ⟨#[]⟩, .slice none 0 0, .slice none 0 0, .slice none 0 0]) := Lib.hid (((ExprAt.leaf y3 (fun b => B < b) 0 0 [] 0 [])).keep (Sh.of_fr (st8_fr y3 B (.int .i64 0) (.int .i64 0) (.string ⟨#[]⟩) (.int .i64 0) (.string ⟨#[]⟩) (.slice none 0 0) (.slice none 0 0) (.slice none 0 0)) (fun b hb hlt => ⟨by omega, by simp; omega⟩)))
   unfold st8 at HG HF HP HX
   obtain ⟨⟨u0, u1, u2, u3, u4, u5, u6, u7⟩, z0, z1, z2, z3, z4, z5, z6, z7⟩ := cells8 g0
   go_wp2_with fail
   generalize (((((((y3.setCell ⟨B, 0, none⟩ (.int .i64 0)).setCell ⟨B, 1, none⟩ (.int .i64 0)).setCell ⟨B, 2, none⟩ (.string ⟨#[]⟩)).setCell ⟨B, 3, none⟩ (.int .i64 0)).setCell ⟨B, 4, none⟩ (.string ⟨#[]⟩)).setCell ⟨B, 5, none⟩ (.slice none 0 0)).setCell ⟨B, 6, none⟩ (.slice none 0 0)).setCell ⟨B, 7, none⟩ (.slice none 0 0) = Z at HG HF HP HX ⊢
   obtain ⟨⟨d0, d1, d2, d3, d4, d5, d6, d7⟩, _⟩ := cells8 HG.out
   refine bodyPost_ret (v := .agg #[.int .i64 0, .int .i64 0, .string ⟨#[]⟩, .int .i64 0, .string ⟨#[]⟩, .slice none 0 0, .slice none 0 0, .slice none 0 0]) ?_ rfl ?_
   ·simp [results, Tryz.f85, go_sem, d0, d1, d2, d3, d4, d5, d6, d7]
   ·exact ⟨_, _, _, _, _, _, _, _, _, _, _, _, _, _, _, _, _, _, rfl, by rw [hB]; exact HX.out, by unfold body; exact .look ht (by rw [hb, hb2]; exact .fail .retE), HP.out, HF.out⟩
  | false =>
   rw [hb2] at ci
   have HR : Hid (∀ x st', Run ts (if t.k = 1 then .retE (.mk 1 t.at' t.text 0 [] [] [] [])
   else if t.k = 2 then .retE (.mk 6 t.at' t.text 0 [] [] [] [])
   else if t.k = 4 then .retE (.mk 2 t.at' [] t.n [] [] [] [])
   else if t.k = 5 then .retE (.mk 3 t.at' [] 0 t.text [] [] [])
   else if t.text = [116, 114, 117, 101] then .retE (.mk 4 t.at' [] 1 [] [] [] [])
   else if t.text = [102, 97, 108, 115, 101] then .retE (.mk 4 t.at' [] 0 [] [] [] [])
   else if t.text = [123] then .callE (.braces t.at') .retE
   else mayC [41] fun b => if b = true then .retE (.mk 5 t.at' [] 0 [] [] [] []) else .callE .seq fun x => mustC [41] (.retE x)) ⟨st.i + 1, st.ok⟩ (.e x) st' → Run ts (body .atom) st (.e x) st') := Lib.hid (fun x st' h => .look ht (by rw [hb, hb2]; exact .adv h))
   go_wp2_with fail
   refine (ci _).out.mono ?_; rintro e y2 ⟨rfl, f2⟩; go_wp2_with fail
   have f2 := fa.trans f2
   have h1 := h1.fr f2
   have g0 := f2.keep g0 (fun x => by cases x)
   have f2 := (f0.trans f1).trans f2
   refine (next_any P g c ts st t ht HK0.out.1 HK0.out.2 y2 h1 HE.out).mono ?_
   rintro e x3 ⟨rfl, h3, f3⟩
   have g0 := f3.keep g0 (by simpa using nB)
   have F3 := (f2.mono (fun x hx => by cases hx)).trans f3
   clear hb hb2 ht h0 h1 f1 f2 f3 fa ci f0
   cases t with
   | mk tk ta tt tn =>
   simp only at *
   by_cases e0 : tk = 1
   ·subst e0
    go_wp2_with fail
    have q3 := heap_old (heap_new x3 (.cells #[.int .i64 1, .int .i64 ta, .string ⟨tt.toArray⟩, .int .i64 tn] 46)) (.cells #[.int .i64 0, .int .i64 ta, .string ⟨#[]⟩, .int .i64 0, .string ⟨#[]⟩, .slice none 0 0, .slice none 0 0, .slice none 0 0] 27)
    have q4 := heap_new (x3.alloc (.cells #[.int .i64 1, .int .i64 ta, .string ⟨tt.toArray⟩, .int .i64 tn] 46)) (.cells #[.int .i64 0, .int .i64 ta, .string ⟨#[]⟩, .int .i64 0, .string ⟨#[]⟩, .slice none 0 0, .slice none 0 0, .slice none 0 0] 27)
    have hsz : (x3.alloc (.cells #[.int .i64 1, .int .i64 ta, .string ⟨tt.toArray⟩, .int .i64 tn] 46)).heap.size = x3.heap.size + 1 := by simp
    rw [hsz] at q4
    clear hsz
    have fbb : Fr [] x3 ((x3.alloc (.cells #[.int .i64 1, .int .i64 ta, .string ⟨tt.toArray⟩, .int .i64 tn] 46)).alloc (.cells #[.int .i64 0, .int .i64 ta, .string ⟨#[]⟩, .int .i64 0, .string ⟨#[]⟩, .slice none 0 0, .slice none 0 0, .slice none 0 0] 27)) := ((Fr.refl [] x3).alloc _).alloc _
    have hBT := lt_of_heap g0
    have hPT := lt_of_heap h3.blk
    have g0 := fbb.keep g0 (fun x => by cases x)
    have h5 := h3.fr fbb
    have F5 := F3.trans0 fbb
    generalize (x3.alloc (.cells #[.int .i64 1, .int .i64 ta, .string ⟨tt.toArray⟩, .int .i64 tn] 46)).alloc (.cells #[.int .i64 0, .int .i64 ta, .string ⟨#[]⟩, .int .i64 0, .string ⟨#[]⟩, .slice none 0 0, .slice none 0 0, .slice none 0 0] 27) = x5 at *
    generalize x3.heap.size = T3 at *
    have hT4 := lt_of_heap q4
    obtain ⟨m0, m1, m2, m3, _⟩ := cells4 q3
    obtain ⟨⟨u0, u1, u2, u3, u4, u5, u6, u7⟩, z0, z1, z2, z3, z4, z5, z6, z7⟩ := cells8 q4
    go_region_held3 (fun w' => w'.cell? ⟨T3, 2, none⟩ = some (.string ⟨tt.toArray⟩)) (go_keep) (fail)
    have q6 : (((x5.setCell ⟨T3 + 1, 0, none⟩ (.int .i64 1)).setCell ⟨T3 + 1, 2, none⟩ (.string ⟨tt.toArray⟩)).drew).heap[T3 + 1]? = some (.cells #[.int .i64 1, .int .i64 ta, .string ⟨tt.toArray⟩, .int .i64 0, .string ⟨#[]⟩, .slice none 0 0, .slice none 0 0, .slice none 0 0] 27 (0, 0)) := set_at (set_at q4 0 (.int .i64 1)) 2 (.string ⟨tt.toArray⟩)
    have fs : Fr [T3 + 1] x5 (((x5.setCell ⟨T3 + 1, 0, none⟩ (.int .i64 1)).setCell ⟨T3 + 1, 2, none⟩ (.string ⟨tt.toArray⟩)).drew) := (((Fr.refl [T3 + 1] x5).setCell (p := ⟨T3 + 1, 0, none⟩) (.inl (by simp)) _).setCell (p := ⟨T3 + 1, 2, none⟩) (.inl (by simp)) _).drew
    have g0 := fs.keep g0 (by simp; omega)
    have h6 := h5.frL fs (by simp; omega) (by simp; omega)
    have F6 := F5.step fs (fun x hx => .inr (by simp at hx; omega))
    clear m0 m1 m2 m3 u0 u1 u2 u3 u4 u5 u6 u7 z0 z1 z2 z3 z4 z5 z6 z7 q4
    generalize ((x5.setCell ⟨T3 + 1, 0, none⟩ (.int .i64 1)).setCell ⟨T3 + 1, 2, none⟩ (.string ⟨tt.toArray⟩)).drew = x6 at *
    obtain ⟨⟨l0, l1, l2, l3, l4, l5, l6, l7⟩, _⟩ := cells8 q6
    have HG := Lib.hid (st8_heap g0 (.int .i64 1) (.int .i64 ta) (.string ⟨tt.toArray⟩) (.int .i64 0) (.string ⟨#[]⟩) (.slice none 0 0) (.slice none 0 0) (.slice none 0 0))
    have HF := Lib.hid ((F6).step (st8_fr x6 B (.int .i64 1) (.int .i64 ta) (.string ⟨tt.toArray⟩) (.int .i64 0) (.string ⟨#[]⟩) (.slice none 0 0) (.slice none 0 0) (.slice none 0 0)) (fun x hx => .inr (by simp at hx; omega)))
    have HP := Lib.hid ((h6).frL (st8_fr x6 B (.int .i64 1) (.int .i64 ta) (.string ⟨tt.toArray⟩) (.int .i64 0) (.string ⟨#[]⟩) (.slice none 0 0) (.slice none 0 0) (.slice none 0 0)) (by simpa using nP) (by simpa using ng))
    have HX : Hid (ExprAt (st8 x6 B (.int .i64 1) (.int .i64 ta) (.string ⟨tt.toArray⟩) (.int .i64 0) (.string ⟨#[]⟩) (.slice none 0 0) (.slice none 0 0) (.slice none 0 0)) (fun b => B ≤ b) (.mk 1 ta tt 0 [] [] [] []) [.int .i64 1, .int .i64 ta, .string ⟨tt.toArray⟩, .int .i64 0, .string ⟨#[]⟩, .slice none 0 0, .slice none 0 0, .slice none 0 0]) := Lib.hid (((ExprAt.leaf x6 (fun b => B < b) 1 ta tt 0 [])).keep (Sh.of_fr (st8_fr x6 B (.int .i64 1) (.int .i64 ta) (.string ⟨tt.toArray⟩) (.int .i64 0) (.string ⟨#[]⟩) (.slice none 0 0) (.slice none 0 0) (.slice none 0 0)) (fun b hb hlt => ⟨by omega, by simp; omega⟩)))
    unfold st8 at HG HF HP HX
    obtain ⟨⟨u0, u1, u2, u3, u4, u5, u6, u7⟩, z0, z1, z2, z3, z4, z5, z6, z7⟩ := cells8 g0
    go_wp2_with fail
    generalize (((((((x6.setCell ⟨B, 0, none⟩ (.int .i64 1)).setCell ⟨B, 1, none⟩ (.int .i64 ta)).setCell ⟨B, 2, none⟩ (.string ⟨tt.toArray⟩)).setCell ⟨B, 3, none⟩ (.int .i64 0)).setCell ⟨B, 4, none⟩ (.string ⟨#[]⟩)).setCell ⟨B, 5, none⟩ (.slice none 0 0)).setCell ⟨B, 6, none⟩ (.slice none 0 0)).setCell ⟨B, 7, none⟩ (.slice none 0 0) = Z at HG HF HP HX ⊢
    obtain ⟨⟨d0, d1, d2, d3, d4, d5, d6, d7⟩, _⟩ := cells8 HG.out
    refine bodyPost_ret (v := .agg #[.int .i64 1, .int .i64 ta, .string ⟨tt.toArray⟩, .int .i64 0, .string ⟨#[]⟩, .slice none 0 0, .slice none 0 0, .slice none 0 0]) ?_ rfl ?_
    ·simp [results, Tryz.f85, go_sem, d0, d1, d2, d3, d4, d5, d6, d7]
    ·exact ⟨_, _, _, _, _, _, _, _, _, _, _, _, _, _, _, _, _, _, rfl, by rw [hB]; exact HX.out, HR.out _ _ (by simp; exact .retE), HP.out, HF.out⟩
   by_cases e1 : tk = 2
   ·subst e1
    go_wp2_with fail
    have q3 := heap_old (heap_new x3 (.cells #[.int .i64 2, .int .i64 ta, .string ⟨tt.toArray⟩, .int .i64 tn] 46)) (.cells #[.int .i64 0, .int .i64 ta, .string ⟨#[]⟩, .int .i64 0, .string ⟨#[]⟩, .slice none 0 0, .slice none 0 0, .slice none 0 0] 27)
    have q4 := heap_new (x3.alloc (.cells #[.int .i64 2, .int .i64 ta, .string ⟨tt.toArray⟩, .int .i64 tn] 46)) (.cells #[.int .i64 0, .int .i64 ta, .string ⟨#[]⟩, .int .i64 0, .string ⟨#[]⟩, .slice none 0 0, .slice none 0 0, .slice none 0 0] 27)
    have hsz : (x3.alloc (.cells #[.int .i64 2, .int .i64 ta, .string ⟨tt.toArray⟩, .int .i64 tn] 46)).heap.size = x3.heap.size + 1 := by simp
    rw [hsz] at q4
    clear hsz
    have fbb : Fr [] x3 ((x3.alloc (.cells #[.int .i64 2, .int .i64 ta, .string ⟨tt.toArray⟩, .int .i64 tn] 46)).alloc (.cells #[.int .i64 0, .int .i64 ta, .string ⟨#[]⟩, .int .i64 0, .string ⟨#[]⟩, .slice none 0 0, .slice none 0 0, .slice none 0 0] 27)) := ((Fr.refl [] x3).alloc _).alloc _
    have hBT := lt_of_heap g0
    have hPT := lt_of_heap h3.blk
    have g0 := fbb.keep g0 (fun x => by cases x)
    have h5 := h3.fr fbb
    have F5 := F3.trans0 fbb
    generalize (x3.alloc (.cells #[.int .i64 2, .int .i64 ta, .string ⟨tt.toArray⟩, .int .i64 tn] 46)).alloc (.cells #[.int .i64 0, .int .i64 ta, .string ⟨#[]⟩, .int .i64 0, .string ⟨#[]⟩, .slice none 0 0, .slice none 0 0, .slice none 0 0] 27) = x5 at *
    generalize x3.heap.size = T3 at *
    have hT4 := lt_of_heap q4
    obtain ⟨m0, m1, m2, m3, _⟩ := cells4 q3
    obtain ⟨⟨u0, u1, u2, u3, u4, u5, u6, u7⟩, z0, z1, z2, z3, z4, z5, z6, z7⟩ := cells8 q4
    go_region_held3 (fun w' => w'.cell? ⟨T3, 2, none⟩ = some (.string ⟨tt.toArray⟩)) (go_keep) (fail)
    have q6 : (((x5.setCell ⟨T3 + 1, 0, none⟩ (.int .i64 6)).setCell ⟨T3 + 1, 2, none⟩ (.string ⟨tt.toArray⟩)).drew).heap[T3 + 1]? = some (.cells #[.int .i64 6, .int .i64 ta, .string ⟨tt.toArray⟩, .int .i64 0, .string ⟨#[]⟩, .slice none 0 0, .slice none 0 0, .slice none 0 0] 27 (0, 0)) := set_at (set_at q4 0 (.int .i64 6)) 2 (.string ⟨tt.toArray⟩)
    have fs : Fr [T3 + 1] x5 (((x5.setCell ⟨T3 + 1, 0, none⟩ (.int .i64 6)).setCell ⟨T3 + 1, 2, none⟩ (.string ⟨tt.toArray⟩)).drew) := (((Fr.refl [T3 + 1] x5).setCell (p := ⟨T3 + 1, 0, none⟩) (.inl (by simp)) _).setCell (p := ⟨T3 + 1, 2, none⟩) (.inl (by simp)) _).drew
    have g0 := fs.keep g0 (by simp; omega)
    have h6 := h5.frL fs (by simp; omega) (by simp; omega)
    have F6 := F5.step fs (fun x hx => .inr (by simp at hx; omega))
    clear m0 m1 m2 m3 u0 u1 u2 u3 u4 u5 u6 u7 z0 z1 z2 z3 z4 z5 z6 z7 q4
    generalize ((x5.setCell ⟨T3 + 1, 0, none⟩ (.int .i64 6)).setCell ⟨T3 + 1, 2, none⟩ (.string ⟨tt.toArray⟩)).drew = x6 at *
    obtain ⟨⟨l0, l1, l2, l3, l4, l5, l6, l7⟩, _⟩ := cells8 q6
    have HG := Lib.hid (st8_heap g0 (.int .i64 6) (.int .i64 ta) (.string ⟨tt.toArray⟩) (.int .i64 0) (.string ⟨#[]⟩) (.slice none 0 0) (.slice none 0 0) (.slice none 0 0))
    have HF := Lib.hid ((F6).step (st8_fr x6 B (.int .i64 6) (.int .i64 ta) (.string ⟨tt.toArray⟩) (.int .i64 0) (.string ⟨#[]⟩) (.slice none 0 0) (.slice none 0 0) (.slice none 0 0)) (fun x hx => .inr (by simp at hx; omega)))
    have HP := Lib.hid ((h6).frL (st8_fr x6 B (.int .i64 6) (.int .i64 ta) (.string ⟨tt.toArray⟩) (.int .i64 0) (.string ⟨#[]⟩) (.slice none 0 0) (.slice none 0 0) (.slice none 0 0)) (by simpa using nP) (by simpa using ng))
    have HX : Hid (ExprAt (st8 x6 B (.int .i64 6) (.int .i64 ta) (.string ⟨tt.toArray⟩) (.int .i64 0) (.string ⟨#[]⟩) (.slice none 0 0) (.slice none 0 0) (.slice none 0 0)) (fun b => B ≤ b) (.mk 6 ta tt 0 [] [] [] []) [.int .i64 6, .int .i64 ta, .string ⟨tt.toArray⟩, .int .i64 0, .string ⟨#[]⟩, .slice none 0 0, .slice none 0 0, .slice none 0 0]) := Lib.hid (((ExprAt.leaf x6 (fun b => B < b) 6 ta tt 0 [])).keep (Sh.of_fr (st8_fr x6 B (.int .i64 6) (.int .i64 ta) (.string ⟨tt.toArray⟩) (.int .i64 0) (.string ⟨#[]⟩) (.slice none 0 0) (.slice none 0 0) (.slice none 0 0)) (fun b hb hlt => ⟨by omega, by simp; omega⟩)))
    unfold st8 at HG HF HP HX
    obtain ⟨⟨u0, u1, u2, u3, u4, u5, u6, u7⟩, z0, z1, z2, z3, z4, z5, z6, z7⟩ := cells8 g0
    go_wp2_with fail
    generalize (((((((x6.setCell ⟨B, 0, none⟩ (.int .i64 6)).setCell ⟨B, 1, none⟩ (.int .i64 ta)).setCell ⟨B, 2, none⟩ (.string ⟨tt.toArray⟩)).setCell ⟨B, 3, none⟩ (.int .i64 0)).setCell ⟨B, 4, none⟩ (.string ⟨#[]⟩)).setCell ⟨B, 5, none⟩ (.slice none 0 0)).setCell ⟨B, 6, none⟩ (.slice none 0 0)).setCell ⟨B, 7, none⟩ (.slice none 0 0) = Z at HG HF HP HX ⊢
    obtain ⟨⟨d0, d1, d2, d3, d4, d5, d6, d7⟩, _⟩ := cells8 HG.out
    refine bodyPost_ret (v := .agg #[.int .i64 6, .int .i64 ta, .string ⟨tt.toArray⟩, .int .i64 0, .string ⟨#[]⟩, .slice none 0 0, .slice none 0 0, .slice none 0 0]) ?_ rfl ?_
    ·simp [results, Tryz.f85, go_sem, d0, d1, d2, d3, d4, d5, d6, d7]
    ·exact ⟨_, _, _, _, _, _, _, _, _, _, _, _, _, _, _, _, _, _, rfl, by rw [hB]; exact HX.out, HR.out _ _ (by simp; exact .retE), HP.out, HF.out⟩
   by_cases e2 : tk = 4
   ·subst e2
    go_wp2_with fail
    have q3 := heap_old (heap_new x3 (.cells #[.int .i64 4, .int .i64 ta, .string ⟨tt.toArray⟩, .int .i64 tn] 46)) (.cells #[.int .i64 0, .int .i64 ta, .string ⟨#[]⟩, .int .i64 0, .string ⟨#[]⟩, .slice none 0 0, .slice none 0 0, .slice none 0 0] 27)
    have q4 := heap_new (x3.alloc (.cells #[.int .i64 4, .int .i64 ta, .string ⟨tt.toArray⟩, .int .i64 tn] 46)) (.cells #[.int .i64 0, .int .i64 ta, .string ⟨#[]⟩, .int .i64 0, .string ⟨#[]⟩, .slice none 0 0, .slice none 0 0, .slice none 0 0] 27)
    have hsz : (x3.alloc (.cells #[.int .i64 4, .int .i64 ta, .string ⟨tt.toArray⟩, .int .i64 tn] 46)).heap.size = x3.heap.size + 1 := by simp
    rw [hsz] at q4
    clear hsz
    have fbb : Fr [] x3 ((x3.alloc (.cells #[.int .i64 4, .int .i64 ta, .string ⟨tt.toArray⟩, .int .i64 tn] 46)).alloc (.cells #[.int .i64 0, .int .i64 ta, .string ⟨#[]⟩, .int .i64 0, .string ⟨#[]⟩, .slice none 0 0, .slice none 0 0, .slice none 0 0] 27)) := ((Fr.refl [] x3).alloc _).alloc _
    have hBT := lt_of_heap g0
    have hPT := lt_of_heap h3.blk
    have g0 := fbb.keep g0 (fun x => by cases x)
    have h5 := h3.fr fbb
    have F5 := F3.trans0 fbb
    generalize (x3.alloc (.cells #[.int .i64 4, .int .i64 ta, .string ⟨tt.toArray⟩, .int .i64 tn] 46)).alloc (.cells #[.int .i64 0, .int .i64 ta, .string ⟨#[]⟩, .int .i64 0, .string ⟨#[]⟩, .slice none 0 0, .slice none 0 0, .slice none 0 0] 27) = x5 at *
    generalize x3.heap.size = T3 at *
    have hT4 := lt_of_heap q4
    obtain ⟨m0, m1, m2, m3, _⟩ := cells4 q3
    obtain ⟨⟨u0, u1, u2, u3, u4, u5, u6, u7⟩, z0, z1, z2, z3, z4, z5, z6, z7⟩ := cells8 q4
    go_region_held3 (fun w' => w'.cell? ⟨T3, 3, none⟩ = some (.int .i64 tn)) (go_keep) (fail)
    have q6 : (((x5.setCell ⟨T3 + 1, 0, none⟩ (.int .i64 2)).setCell ⟨T3 + 1, 3, none⟩ (.int .i64 tn)).drew).heap[T3 + 1]? = some (.cells #[.int .i64 2, .int .i64 ta, .string ⟨#[]⟩, .int .i64 tn, .string ⟨#[]⟩, .slice none 0 0, .slice none 0 0, .slice none 0 0] 27 (0, 0)) := set_at (set_at q4 0 (.int .i64 2)) 3 (.int .i64 tn)
    have fs : Fr [T3 + 1] x5 (((x5.setCell ⟨T3 + 1, 0, none⟩ (.int .i64 2)).setCell ⟨T3 + 1, 3, none⟩ (.int .i64 tn)).drew) := (((Fr.refl [T3 + 1] x5).setCell (p := ⟨T3 + 1, 0, none⟩) (.inl (by simp)) _).setCell (p := ⟨T3 + 1, 3, none⟩) (.inl (by simp)) _).drew
    have g0 := fs.keep g0 (by simp; omega)
    have h6 := h5.frL fs (by simp; omega) (by simp; omega)
    have F6 := F5.step fs (fun x hx => .inr (by simp at hx; omega))
    clear m0 m1 m2 m3 u0 u1 u2 u3 u4 u5 u6 u7 z0 z1 z2 z3 z4 z5 z6 z7 q4
    generalize ((x5.setCell ⟨T3 + 1, 0, none⟩ (.int .i64 2)).setCell ⟨T3 + 1, 3, none⟩ (.int .i64 tn)).drew = x6 at *
    obtain ⟨⟨l0, l1, l2, l3, l4, l5, l6, l7⟩, _⟩ := cells8 q6
    have HG := Lib.hid (st8_heap g0 (.int .i64 2) (.int .i64 ta) (.string ⟨#[]⟩) (.int .i64 tn) (.string ⟨#[]⟩) (.slice none 0 0) (.slice none 0 0) (.slice none 0 0))
    have HF := Lib.hid ((F6).step (st8_fr x6 B (.int .i64 2) (.int .i64 ta) (.string ⟨#[]⟩) (.int .i64 tn) (.string ⟨#[]⟩) (.slice none 0 0) (.slice none 0 0) (.slice none 0 0)) (fun x hx => .inr (by simp at hx; omega)))
    have HP := Lib.hid ((h6).frL (st8_fr x6 B (.int .i64 2) (.int .i64 ta) (.string ⟨#[]⟩) (.int .i64 tn) (.string ⟨#[]⟩) (.slice none 0 0) (.slice none 0 0) (.slice none 0 0)) (by simpa using nP) (by simpa using ng))
    have HX : Hid (ExprAt (st8 x6 B (.int .i64 2) (.int .i64 ta) (.string ⟨#[]⟩) (.int .i64 tn) (.string ⟨#[]⟩) (.slice none 0 0) (.slice none 0 0) (.slice none 0 0)) (fun b => B ≤ b) (.mk 2 ta [] tn [] [] [] []) [.int .i64 2, .int .i64 ta, .string ⟨#[]⟩, .int .i64 tn, .string ⟨#[]⟩, .slice none 0 0, .slice none 0 0, .slice none 0 0]) := Lib.hid (((ExprAt.leaf x6 (fun b => B < b) 2 ta [] tn [])).keep (Sh.of_fr (st8_fr x6 B (.int .i64 2) (.int .i64 ta) (.string ⟨#[]⟩) (.int .i64 tn) (.string ⟨#[]⟩) (.slice none 0 0) (.slice none 0 0) (.slice none 0 0)) (fun b hb hlt => ⟨by omega, by simp; omega⟩)))
    unfold st8 at HG HF HP HX
    obtain ⟨⟨u0, u1, u2, u3, u4, u5, u6, u7⟩, z0, z1, z2, z3, z4, z5, z6, z7⟩ := cells8 g0
    go_wp2_with fail
    generalize (((((((x6.setCell ⟨B, 0, none⟩ (.int .i64 2)).setCell ⟨B, 1, none⟩ (.int .i64 ta)).setCell ⟨B, 2, none⟩ (.string ⟨#[]⟩)).setCell ⟨B, 3, none⟩ (.int .i64 tn)).setCell ⟨B, 4, none⟩ (.string ⟨#[]⟩)).setCell ⟨B, 5, none⟩ (.slice none 0 0)).setCell ⟨B, 6, none⟩ (.slice none 0 0)).setCell ⟨B, 7, none⟩ (.slice none 0 0) = Z at HG HF HP HX ⊢
    obtain ⟨⟨d0, d1, d2, d3, d4, d5, d6, d7⟩, _⟩ := cells8 HG.out
    refine bodyPost_ret (v := .agg #[.int .i64 2, .int .i64 ta, .string ⟨#[]⟩, .int .i64 tn, .string ⟨#[]⟩, .slice none 0 0, .slice none 0 0, .slice none 0 0]) ?_ rfl ?_
    ·simp [results, Tryz.f85, go_sem, d0, d1, d2, d3, d4, d5, d6, d7]
    ·exact ⟨_, _, _, _, _, _, _, _, _, _, _, _, _, _, _, _, _, _, rfl, by rw [hB]; exact HX.out, HR.out _ _ (by simp; exact .retE), HP.out, HF.out⟩
   by_cases e3 : tk = 5
   ·subst e3
    go_wp2_with fail
    have q3 := heap_old (heap_new x3 (.cells #[.int .i64 5, .int .i64 ta, .string ⟨tt.toArray⟩, .int .i64 tn] 46)) (.cells #[.int .i64 0, .int .i64 ta, .string ⟨#[]⟩, .int .i64 0, .string ⟨#[]⟩, .slice none 0 0, .slice none 0 0, .slice none 0 0] 27)
    have q4 := heap_new (x3.alloc (.cells #[.int .i64 5, .int .i64 ta, .string ⟨tt.toArray⟩, .int .i64 tn] 46)) (.cells #[.int .i64 0, .int .i64 ta, .string ⟨#[]⟩, .int .i64 0, .string ⟨#[]⟩, .slice none 0 0, .slice none 0 0, .slice none 0 0] 27)
    have hsz : (x3.alloc (.cells #[.int .i64 5, .int .i64 ta, .string ⟨tt.toArray⟩, .int .i64 tn] 46)).heap.size = x3.heap.size + 1 := by simp
    rw [hsz] at q4
    clear hsz
    have fbb : Fr [] x3 ((x3.alloc (.cells #[.int .i64 5, .int .i64 ta, .string ⟨tt.toArray⟩, .int .i64 tn] 46)).alloc (.cells #[.int .i64 0, .int .i64 ta, .string ⟨#[]⟩, .int .i64 0, .string ⟨#[]⟩, .slice none 0 0, .slice none 0 0, .slice none 0 0] 27)) := ((Fr.refl [] x3).alloc _).alloc _
    have hBT := lt_of_heap g0
    have hPT := lt_of_heap h3.blk
    have g0 := fbb.keep g0 (fun x => by cases x)
    have h5 := h3.fr fbb
    have F5 := F3.trans0 fbb
    generalize (x3.alloc (.cells #[.int .i64 5, .int .i64 ta, .string ⟨tt.toArray⟩, .int .i64 tn] 46)).alloc (.cells #[.int .i64 0, .int .i64 ta, .string ⟨#[]⟩, .int .i64 0, .string ⟨#[]⟩, .slice none 0 0, .slice none 0 0, .slice none 0 0] 27) = x5 at *
    generalize x3.heap.size = T3 at *
    have hT4 := lt_of_heap q4
    obtain ⟨m0, m1, m2, m3, _⟩ := cells4 q3
    obtain ⟨⟨u0, u1, u2, u3, u4, u5, u6, u7⟩, z0, z1, z2, z3, z4, z5, z6, z7⟩ := cells8 q4
    go_region_held3 (fun w' => w'.cell? ⟨T3, 2, none⟩ = some (.string ⟨tt.toArray⟩)) (go_keep) (fail)
    have q6 : (((x5.setCell ⟨T3 + 1, 0, none⟩ (.int .i64 3)).setCell ⟨T3 + 1, 4, none⟩ (.string ⟨tt.toArray⟩)).drew).heap[T3 + 1]? = some (.cells #[.int .i64 3, .int .i64 ta, .string ⟨#[]⟩, .int .i64 0, .string ⟨tt.toArray⟩, .slice none 0 0, .slice none 0 0, .slice none 0 0] 27 (0, 0)) := set_at (set_at q4 0 (.int .i64 3)) 4 (.string ⟨tt.toArray⟩)
    have fs : Fr [T3 + 1] x5 (((x5.setCell ⟨T3 + 1, 0, none⟩ (.int .i64 3)).setCell ⟨T3 + 1, 4, none⟩ (.string ⟨tt.toArray⟩)).drew) := (((Fr.refl [T3 + 1] x5).setCell (p := ⟨T3 + 1, 0, none⟩) (.inl (by simp)) _).setCell (p := ⟨T3 + 1, 4, none⟩) (.inl (by simp)) _).drew
    have g0 := fs.keep g0 (by simp; omega)
    have h6 := h5.frL fs (by simp; omega) (by simp; omega)
    have F6 := F5.step fs (fun x hx => .inr (by simp at hx; omega))
    clear m0 m1 m2 m3 u0 u1 u2 u3 u4 u5 u6 u7 z0 z1 z2 z3 z4 z5 z6 z7 q4
    generalize ((x5.setCell ⟨T3 + 1, 0, none⟩ (.int .i64 3)).setCell ⟨T3 + 1, 4, none⟩ (.string ⟨tt.toArray⟩)).drew = x6 at *
    obtain ⟨⟨l0, l1, l2, l3, l4, l5, l6, l7⟩, _⟩ := cells8 q6
    have HG := Lib.hid (st8_heap g0 (.int .i64 3) (.int .i64 ta) (.string ⟨#[]⟩) (.int .i64 0) (.string ⟨tt.toArray⟩) (.slice none 0 0) (.slice none 0 0) (.slice none 0 0))
    have HF := Lib.hid ((F6).step (st8_fr x6 B (.int .i64 3) (.int .i64 ta) (.string ⟨#[]⟩) (.int .i64 0) (.string ⟨tt.toArray⟩) (.slice none 0 0) (.slice none 0 0) (.slice none 0 0)) (fun x hx => .inr (by simp at hx; omega)))
    have HP := Lib.hid ((h6).frL (st8_fr x6 B (.int .i64 3) (.int .i64 ta) (.string ⟨#[]⟩) (.int .i64 0) (.string ⟨tt.toArray⟩) (.slice none 0 0) (.slice none 0 0) (.slice none 0 0)) (by simpa using nP) (by simpa using ng))
    have HX : Hid (ExprAt (st8 x6 B (.int .i64 3) (.int .i64 ta) (.string ⟨#[]⟩) (.int .i64 0) (.string ⟨tt.toArray⟩) (.slice none 0 0) (.slice none 0 0) (.slice none 0 0)) (fun b => B ≤ b) (.mk 3 ta [] 0 tt [] [] []) [.int .i64 3, .int .i64 ta, .string ⟨#[]⟩, .int .i64 0, .string ⟨tt.toArray⟩, .slice none 0 0, .slice none 0 0, .slice none 0 0]) := Lib.hid (((ExprAt.leaf x6 (fun b => B < b) 3 ta [] 0 tt)).keep (Sh.of_fr (st8_fr x6 B (.int .i64 3) (.int .i64 ta) (.string ⟨#[]⟩) (.int .i64 0) (.string ⟨tt.toArray⟩) (.slice none 0 0) (.slice none 0 0) (.slice none 0 0)) (fun b hb hlt => ⟨by omega, by simp; omega⟩)))
    unfold st8 at HG HF HP HX
    obtain ⟨⟨u0, u1, u2, u3, u4, u5, u6, u7⟩, z0, z1, z2, z3, z4, z5, z6, z7⟩ := cells8 g0
    go_wp2_with fail
    generalize (((((((x6.setCell ⟨B, 0, none⟩ (.int .i64 3)).setCell ⟨B, 1, none⟩ (.int .i64 ta)).setCell ⟨B, 2, none⟩ (.string ⟨#[]⟩)).setCell ⟨B, 3, none⟩ (.int .i64 0)).setCell ⟨B, 4, none⟩ (.string ⟨tt.toArray⟩)).setCell ⟨B, 5, none⟩ (.slice none 0 0)).setCell ⟨B, 6, none⟩ (.slice none 0 0)).setCell ⟨B, 7, none⟩ (.slice none 0 0) = Z at HG HF HP HX ⊢
    obtain ⟨⟨d0, d1, d2, d3, d4, d5, d6, d7⟩, _⟩ := cells8 HG.out
    refine bodyPost_ret (v := .agg #[.int .i64 3, .int .i64 ta, .string ⟨#[]⟩, .int .i64 0, .string ⟨tt.toArray⟩, .slice none 0 0, .slice none 0 0, .slice none 0 0]) ?_ rfl ?_
    ·simp [results, Tryz.f85, go_sem, d0, d1, d2, d3, d4, d5, d6, d7]
    ·exact ⟨_, _, _, _, _, _, _, _, _, _, _, _, _, _, _, _, _, _, rfl, by rw [hB]; exact HX.out, HR.out _ _ (by simp; exact .retE), HP.out, HF.out⟩
   have b0 : (tk == 1) = false := beq_eq_false_iff_ne.2 e0
   have b1 : (tk == 2) = false := beq_eq_false_iff_ne.2 e1
   have b2 : (tk == 4) = false := beq_eq_false_iff_ne.2 e2
   have b3 : (tk == 5) = false := beq_eq_false_iff_ne.2 e3
   rw [if_neg e0, if_neg e1, if_neg e2, if_neg e3] at HR
   clear e0 e1 e2 e3
   by_cases d0 : tt = [116, 114, 117, 101]
   ·subst d0
    have hBT := lt_of_heap g0
    have HG := Lib.hid (st8_heap g0 (.int .i64 4) (.int .i64 ta) (.string ⟨#[]⟩) (.int .i64 1) (.string ⟨#[]⟩) (.slice none 0 0) (.slice none 0 0) (.slice none 0 0))
    have HF := Lib.hid ((F3).step (st8_fr x3 B (.int .i64 4) (.int .i64 ta) (.string ⟨#[]⟩) (.int .i64 1) (.string ⟨#[]⟩) (.slice none 0 0) (.slice none 0 0) (.slice none 0 0)) (fun x hx => .inr (by simp at hx; omega)))
    have HP := Lib.hid ((h3).frL (st8_fr x3 B (.int .i64 4) (.int .i64 ta) (.string ⟨#[]⟩) (.int .i64 1) (.string ⟨#[]⟩) (.slice none 0 0) (.slice none 0 0) (.slice none 0 0)) (by simpa using nP) (by simpa using ng))
    unfold st8 at HG HF HP
    obtain ⟨⟨u0, u1, u2, u3, u4, u5, u6, u7⟩, z0, z1, z2, z3, z4, z5, z6, z7⟩ := cells8 g0
    go_wp2_with fail
    generalize (((((((x3.setCell ⟨B, 0, none⟩ (.int .i64 4)).setCell ⟨B, 1, none⟩ (.int .i64 ta)).setCell ⟨B, 2, none⟩ (.string ⟨#[]⟩)).setCell ⟨B, 3, none⟩ (.int .i64 1)).setCell ⟨B, 4, none⟩ (.string ⟨#[]⟩)).setCell ⟨B, 5, none⟩ (.slice none 0 0)).setCell ⟨B, 6, none⟩ (.slice none 0 0)).setCell ⟨B, 7, none⟩ (.slice none 0 0) = Z at HG HF HP ⊢
    obtain ⟨⟨d0, d1, d2, d3, d4, d5, d6, d7⟩, _⟩ := cells8 (heap_old (heap_old HG.out (.cells #[.int .i64 tk, .int .i64 ta, .string ⟨[116, 114, 117, 101].toArray⟩, .int .i64 tn] 46)) (.cells #[.int .i64 4, .int .i64 ta, .string ⟨#[]⟩, .int .i64 1, .string ⟨#[]⟩, .slice none 0 0, .slice none 0 0, .slice none 0 0] 27))
    refine bodyPost_ret (v := .agg #[.int .i64 4, .int .i64 ta, .string ⟨#[]⟩, .int .i64 1, .string ⟨#[]⟩, .slice none 0 0, .slice none 0 0, .slice none 0 0]) ?_ rfl ?_
    ·simp [results, Tryz.f85, go_sem, d0, d1, d2, d3, d4, d5, d6, d7]
    ·exact ⟨_, _, _, _, _, _, _, _, _, _, _, _, _, _, _, _, _, _, rfl, ExprAt.leaf _ _ 4 ta [] 1 [], HR.out _ _ (by simp; exact .retE), HP.out.fr (((Fr.refl [] Z).alloc _).alloc _), ((HF.out).alloc _).alloc _⟩
   have c0 : (tt == [116, 114, 117, 101]) = false := beq_eq_false_iff_ne.2 d0
   rw [if_neg d0] at HR
   clear d0
   by_cases d1 : tt = [102, 97, 108, 115, 101]
   ·subst d1
    have hBT := lt_of_heap g0
    have HG := Lib.hid (st8_heap g0 (.int .i64 4) (.int .i64 ta) (.string ⟨#[]⟩) (.int .i64 0) (.string ⟨#[]⟩) (.slice none 0 0) (.slice none 0 0) (.slice none 0 0))
    have HF := Lib.hid ((F3).step (st8_fr x3 B (.int .i64 4) (.int .i64 ta) (.string ⟨#[]⟩) (.int .i64 0) (.string ⟨#[]⟩) (.slice none 0 0) (.slice none 0 0) (.slice none 0 0)) (fun x hx => .inr (by simp at hx; omega)))
    have HP := Lib.hid ((h3).frL (st8_fr x3 B (.int .i64 4) (.int .i64 ta) (.string ⟨#[]⟩) (.int .i64 0) (.string ⟨#[]⟩) (.slice none 0 0) (.slice none 0 0) (.slice none 0 0)) (by simpa using nP) (by simpa using ng))
    unfold st8 at HG HF HP
    obtain ⟨⟨u0, u1, u2, u3, u4, u5, u6, u7⟩, z0, z1, z2, z3, z4, z5, z6, z7⟩ := cells8 g0
    go_wp2_with fail
    generalize (((((((x3.setCell ⟨B, 0, none⟩ (.int .i64 4)).setCell ⟨B, 1, none⟩ (.int .i64 ta)).setCell ⟨B, 2, none⟩ (.string ⟨#[]⟩)).setCell ⟨B, 3, none⟩ (.int .i64 0)).setCell ⟨B, 4, none⟩ (.string ⟨#[]⟩)).setCell ⟨B, 5, none⟩ (.slice none 0 0)).setCell ⟨B, 6, none⟩ (.slice none 0 0)).setCell ⟨B, 7, none⟩ (.slice none 0 0) = Z at HG HF HP ⊢
    obtain ⟨⟨d0, d1, d2, d3, d4, d5, d6, d7⟩, _⟩ := cells8 (heap_old (heap_old HG.out (.cells #[.int .i64 tk, .int .i64 ta, .string ⟨[102, 97, 108, 115, 101].toArray⟩, .int .i64 tn] 46)) (.cells #[.int .i64 4, .int .i64 ta, .string ⟨#[]⟩, .int .i64 0, .string ⟨#[]⟩, .slice none 0 0, .slice none 0 0, .slice none 0 0] 27))
    refine bodyPost_ret (v := .agg #[.int .i64 4, .int .i64 ta, .string ⟨#[]⟩, .int .i64 0, .string ⟨#[]⟩, .slice none 0 0, .slice none 0 0, .slice none 0 0]) ?_ rfl ?_
    ·simp [results, Tryz.f85, go_sem, d0, d1, d2, d3, d4, d5, d6, d7]
    ·exact ⟨_, _, _, _, _, _, _, _, _, _, _, _, _, _, _, _, _, _, rfl, ExprAt.leaf _ _ 4 ta [] 0 [], HR.out _ _ (by simp; exact .retE), HP.out.fr (((Fr.refl [] Z).alloc _).alloc _), ((HF.out).alloc _).alloc _⟩
   have c1 : (tt == [102, 97, 108, 115, 101]) = false := beq_eq_false_iff_ne.2 d1
   rw [if_neg d1] at HR
   clear d1
   by_cases d2 : tt = [123]
   ·subst d2
    rw [if_pos rfl] at HR
    go_wp2_with fail
    have q3 := heap_old (heap_new x3 (.cells #[.int .i64 tk, .int .i64 ta, .string ⟨[123].toArray⟩, .int .i64 tn] 46)) (.cells #[.int .i64 0, .int .i64 ta, .string ⟨#[]⟩, .int .i64 0, .string ⟨#[]⟩, .slice none 0 0, .slice none 0 0, .slice none 0 0] 27)
    have q4 := heap_new (x3.alloc (.cells #[.int .i64 tk, .int .i64 ta, .string ⟨[123].toArray⟩, .int .i64 tn] 46)) (.cells #[.int .i64 0, .int .i64 ta, .string ⟨#[]⟩, .int .i64 0, .string ⟨#[]⟩, .slice none 0 0, .slice none 0 0, .slice none 0 0] 27)
    have hsz : (x3.alloc (.cells #[.int .i64 tk, .int .i64 ta, .string ⟨[123].toArray⟩, .int .i64 tn] 46)).heap.size = x3.heap.size + 1 := by simp
    rw [hsz] at q4
    clear hsz
    have fbb : Fr [] x3 ((x3.alloc (.cells #[.int .i64 tk, .int .i64 ta, .string ⟨[123].toArray⟩, .int .i64 tn] 46)).alloc (.cells #[.int .i64 0, .int .i64 ta, .string ⟨#[]⟩, .int .i64 0, .string ⟨#[]⟩, .slice none 0 0, .slice none 0 0, .slice none 0 0] 27)) := ((Fr.refl [] x3).alloc _).alloc _
    have hBT := lt_of_heap g0
    have hPT := lt_of_heap h3.blk
    have g0 := fbb.keep g0 (fun x => by cases x)
    have h5 := h3.fr fbb
    have F5 := F3.trans0 fbb
    generalize (x3.alloc (.cells #[.int .i64 tk, .int .i64 ta, .string ⟨[123].toArray⟩, .int .i64 tn] 46)).alloc (.cells #[.int .i64 0, .int .i64 ta, .string ⟨#[]⟩, .int .i64 0, .string ⟨#[]⟩, .slice none 0 0, .slice none 0 0, .slice none 0 0] 27) = x5 at *
    generalize x3.heap.size = T3 at *
    have hT4 := lt_of_heap q4
    obtain ⟨m0, m1, m2, m3, _⟩ := cells4 q3
    obtain ⟨⟨u0, u1, u2, u3, u4, u5, u6, u7⟩, z0, z1, z2, z3, z4, z5, z6, z7⟩ := cells8 q4
    clear m0 m1 m2 m3 u0 u1 u2 u3 u4 u5 u6 u7 z0 z1 z2 z3 z4 z5 z6 z7
    refine (IHB.out P g c ⟨st.i + 1, st.ok⟩ ta x5 h5 (by have := HN.out; have := h5.inb; simp only at this ⊢; omega)).mono ?_
    rintro e x6 ⟨k2, a2, nm2, n2, s2, ls2, args2, arms2, A52, n52, c52, A62, n62, c62, A72, n72, c72, st2, rfl, hx2, hr2, hst2, f6⟩
    have g0 := f6.keep g0 (by simpa using nB)
    have hx2 := hx2.keep (ok' := fun b => B < b) (Sh.of_fr (Fr.refl [] x6) (fun b hb hlt => ⟨by have : x5.heap.size ≤ b := hb; omega, fun x => by cases x⟩))
    have HG := Lib.hid (st8_heap g0 (.int .i64 k2) (.int .i64 a2) (.string ⟨nm2.toArray⟩) (.int .i64 n2) (.string ⟨s2.toArray⟩) (.slice A52 n52 c52) (.slice A62 n62 c62) (.slice A72 n72 c72))
    have HF := Lib.hid ((F5.trans f6).step (st8_fr x6 B (.int .i64 k2) (.int .i64 a2) (.string ⟨nm2.toArray⟩) (.int .i64 n2) (.string ⟨s2.toArray⟩) (.slice A52 n52 c52) (.slice A62 n62 c62) (.slice A72 n72 c72)) (fun x hx => .inr (by simp at hx; omega)))
    have HP := Lib.hid ((hst2).frL (st8_fr x6 B (.int .i64 k2) (.int .i64 a2) (.string ⟨nm2.toArray⟩) (.int .i64 n2) (.string ⟨s2.toArray⟩) (.slice A52 n52 c52) (.slice A62 n62 c62) (.slice A72 n72 c72)) (by simpa using nP) (by simpa using ng))
    have HX : Hid (ExprAt (st8 x6 B (.int .i64 k2) (.int .i64 a2) (.string ⟨nm2.toArray⟩) (.int .i64 n2) (.string ⟨s2.toArray⟩) (.slice A52 n52 c52) (.slice A62 n62 c62) (.slice A72 n72 c72)) (fun b => B ≤ b) (.mk k2 a2 nm2 n2 s2 ls2 args2 arms2) [.int .i64 k2, .int .i64 a2, .string ⟨nm2.toArray⟩, .int .i64 n2, .string ⟨s2.toArray⟩, .slice A52 n52 c52, .slice A62 n62 c62, .slice A72 n72 c72]) := Lib.hid ((hx2).keep (Sh.of_fr (st8_fr x6 B (.int .i64 k2) (.int .i64 a2) (.string ⟨nm2.toArray⟩) (.int .i64 n2) (.string ⟨s2.toArray⟩) (.slice A52 n52 c52) (.slice A62 n62 c62) (.slice A72 n72 c72)) (fun b hb hlt => ⟨by omega, by simp; omega⟩)))
    unfold st8 at HG HF HP HX
    obtain ⟨⟨u0, u1, u2, u3, u4, u5, u6, u7⟩, z0, z1, z2, z3, z4, z5, z6, z7⟩ := cells8 g0
    go_wp2_with fail
    generalize (((((((x6.setCell ⟨B, 0, none⟩ (.int .i64 k2)).setCell ⟨B, 1, none⟩ (.int .i64 a2)).setCell ⟨B, 2, none⟩ (.string ⟨nm2.toArray⟩)).setCell ⟨B, 3, none⟩ (.int .i64 n2)).setCell ⟨B, 4, none⟩ (.string ⟨s2.toArray⟩)).setCell ⟨B, 5, none⟩ (.slice A52 n52 c52)).setCell ⟨B, 6, none⟩ (.slice A62 n62 c62)).setCell ⟨B, 7, none⟩ (.slice A72 n72 c72) = Z at HG HF HP HX ⊢
    obtain ⟨⟨d0, d1, d2, d3, d4, d5, d6, d7⟩, _⟩ := cells8 HG.out
    refine bodyPost_ret (v := .agg #[.int .i64 k2, .int .i64 a2, .string ⟨nm2.toArray⟩, .int .i64 n2, .string ⟨s2.toArray⟩, .slice A52 n52 c52, .slice A62 n62 c62, .slice A72 n72 c72]) ?_ rfl ?_
    ·simp [results, Tryz.f85, go_sem, d0, d1, d2, d3, d4, d5, d6, d7]
    ·exact ⟨_, _, _, _, _, _, _, _, _, _, _, _, _, _, _, _, _, _, rfl, by rw [hB]; exact HX.out, HR.out _ _ (.callE hr2 .retE), HP.out, HF.out⟩

   have c2 : (tt == [123]) = false := beq_eq_false_iff_ne.2 d2
   rw [if_neg d2] at HR
   clear d2
   go_wp2_with fail
   have q3 := heap_old (heap_new x3 (.cells #[.int .i64 tk, .int .i64 ta, .string ⟨tt.toArray⟩, .int .i64 tn] 46)) (.cells #[.int .i64 0, .int .i64 ta, .string ⟨#[]⟩, .int .i64 0, .string ⟨#[]⟩, .slice none 0 0, .slice none 0 0, .slice none 0 0] 27)
   have q4 := heap_new (x3.alloc (.cells #[.int .i64 tk, .int .i64 ta, .string ⟨tt.toArray⟩, .int .i64 tn] 46)) (.cells #[.int .i64 0, .int .i64 ta, .string ⟨#[]⟩, .int .i64 0, .string ⟨#[]⟩, .slice none 0 0, .slice none 0 0, .slice none 0 0] 27)
   have hsz : (x3.alloc (.cells #[.int .i64 tk, .int .i64 ta, .string ⟨tt.toArray⟩, .int .i64 tn] 46)).heap.size = x3.heap.size + 1 := by simp
   rw [hsz] at q4
   clear hsz
   have fbb : Fr [] x3 ((x3.alloc (.cells #[.int .i64 tk, .int .i64 ta, .string ⟨tt.toArray⟩, .int .i64 tn] 46)).alloc (.cells #[.int .i64 0, .int .i64 ta, .string ⟨#[]⟩, .int .i64 0, .string ⟨#[]⟩, .slice none 0 0, .slice none 0 0, .slice none 0 0] 27)) := ((Fr.refl [] x3).alloc _).alloc _
   have hBT := lt_of_heap g0
   have hPT := lt_of_heap h3.blk
   have g0 := fbb.keep g0 (fun x => by cases x)
   have h5 := h3.fr fbb
   have F5 := F3.trans0 fbb
   generalize (x3.alloc (.cells #[.int .i64 tk, .int .i64 ta, .string ⟨tt.toArray⟩, .int .i64 tn] 46)).alloc (.cells #[.int .i64 0, .int .i64 ta, .string ⟨#[]⟩, .int .i64 0, .string ⟨#[]⟩, .slice none 0 0, .slice none 0 0, .slice none 0 0] 27) = x5 at *
   generalize x3.heap.size = T3 at *
   have hT4 := lt_of_heap q4
   obtain ⟨m0, m1, m2, m3, _⟩ := cells4 q3
   obtain ⟨⟨u0, u1, u2, u3, u4, u5, u6, u7⟩, z0, z1, z2, z3, z4, z5, z6, z7⟩ := cells8 q4
   clear m0 m1 m2 m3 u0 u1 u2 u3 u4 u5 u6 u7 z0 z1 z2 z3 z4 z5 z6 z7
   obtain ⟨u, hu⟩ := tok_at h5.inb
   cases hb : isB u st.ok [[41]] with
   | true =>
    refine (may_yes [41] P g c ts _ u hu hb x5 h5 HE.out).mono ?_
    rintro e x7 ⟨rfl, h7, f7⟩
    have g0 := f7.keep g0 (by simpa using nB)
    have q4 := f7.keep q4 (by simp; omega)
    have F7 := F5.trans f7
    have fs := (Fr.refl [T3 + 1] x7).setCell (p := ⟨T3 + 1, 0, none⟩) (.inl (by simp)) (.int .i64 5)
    obtain ⟨⟨m0, m1, m2, m3, m4, m5, m6, m7⟩, j0, j1, j2, j3, j4, j5, j6, j7⟩ := cells8 q4
    obtain ⟨⟨l0, l1, l2, l3, l4, l5, l6, l7⟩, y0, y1, y2, y3, y4, y5, y6, y7⟩ := cells8 g0
    have hT7 := lt_of_heap q4
    have hB7 := lt_of_heap g0
    have n1 : ¬ B = T3 + 1 := by omega
    have n2 : ¬ T3 + 1 = B := by omega
    have g0 := fs.keep g0 (by simp; omega)
    have h8 := h7.frL fs (by simp; omega) (by simp; omega)
    have F8 := F7.step fs (fun x hx => .inr (by simp at hx; omega))
    have HG := Lib.hid (st8_heap g0 (.int .i64 5) (.int .i64 ta) (.string ⟨#[]⟩) (.int .i64 0) (.string ⟨#[]⟩) (.slice none 0 0) (.slice none 0 0) (.slice none 0 0))
    have HF := Lib.hid ((F8).step (st8_fr (x7.setCell ⟨T3 + 1, 0, none⟩ (.int .i64 5)) B (.int .i64 5) (.int .i64 ta) (.string ⟨#[]⟩) (.int .i64 0) (.string ⟨#[]⟩) (.slice none 0 0) (.slice none 0 0) (.slice none 0 0)) (fun x hx => .inr (by simp at hx; omega)))
    have HP := Lib.hid ((h8).frL (st8_fr (x7.setCell ⟨T3 + 1, 0, none⟩ (.int .i64 5)) B (.int .i64 5) (.int .i64 ta) (.string ⟨#[]⟩) (.int .i64 0) (.string ⟨#[]⟩) (.slice none 0 0) (.slice none 0 0) (.slice none 0 0)) (by simpa using nP) (by simpa using ng))
    have HX : Hid (ExprAt (st8 (x7.setCell ⟨T3 + 1, 0, none⟩ (.int .i64 5)) B (.int .i64 5) (.int .i64 ta) (.string ⟨#[]⟩) (.int .i64 0) (.string ⟨#[]⟩) (.slice none 0 0) (.slice none 0 0) (.slice none 0 0)) (fun b => B ≤ b) (.mk 5 ta [] 0 [] [] [] []) [.int .i64 5, .int .i64 ta, .string ⟨#[]⟩, .int .i64 0, .string ⟨#[]⟩, .slice none 0 0, .slice none 0 0, .slice none 0 0]) := Lib.hid (((ExprAt.leaf (x7.setCell ⟨T3 + 1, 0, none⟩ (.int .i64 5)) (fun b => B < b) 5 ta [] 0 [])).keep (Sh.of_fr (st8_fr (x7.setCell ⟨T3 + 1, 0, none⟩ (.int .i64 5)) B (.int .i64 5) (.int .i64 ta) (.string ⟨#[]⟩) (.int .i64 0) (.string ⟨#[]⟩) (.slice none 0 0) (.slice none 0 0) (.slice none 0 0)) (fun b hb hlt => ⟨by omega, by simp; omega⟩)))
    unfold st8 at HG HF HP HX
    obtain ⟨⟨u0, u1, u2, u3, u4, u5, u6, u7⟩, z0, z1, z2, z3, z4, z5, z6, z7⟩ := cells8 g0
    go_wp2_with fail
    generalize ((((((((x7.setCell ⟨T3 + 1, 0, none⟩ (.int .i64 5)).setCell ⟨B, 0, none⟩ (.int .i64 5)).setCell ⟨B, 1, none⟩ (.int .i64 ta)).setCell ⟨B, 2, none⟩ (.string ⟨#[]⟩)).setCell ⟨B, 3, none⟩ (.int .i64 0)).setCell ⟨B, 4, none⟩ (.string ⟨#[]⟩)).setCell ⟨B, 5, none⟩ (.slice none 0 0)).setCell ⟨B, 6, none⟩ (.slice none 0 0)).setCell ⟨B, 7, none⟩ (.slice none 0 0) = Z at HG HF HP HX ⊢
    obtain ⟨⟨d0, d1, d2, d3, d4, d5, d6, d7⟩, _⟩ := cells8 HG.out
    refine bodyPost_ret (v := .agg #[.int .i64 5, .int .i64 ta, .string ⟨#[]⟩, .int .i64 0, .string ⟨#[]⟩, .slice none 0 0, .slice none 0 0, .slice none 0 0]) ?_ rfl ?_
    ·simp [results, Tryz.f85, go_sem, d0, d1, d2, d3, d4, d5, d6, d7]
    ·exact ⟨_, _, _, _, _, _, _, _, _, _, _, _, _, _, _, _, _, _, rfl, by rw [hB]; exact HX.out, HR.out _ _ (.may_yes hu hb (.thn .retE)), HP.out, HF.out⟩
   | false =>
    refine (may_no [41] P g c ts _ u hu hb x5 h5 HE.out).mono ?_
    rintro e x6 ⟨rfl, f6⟩
    go_wp2_with fail
    have h6 := h5.fr f6
    have F6 := F5.trans0 f6
    have g0 := f6.keep g0 (fun x => by cases x)
    have q4 := f6.keep q4 (fun x => by cases x)
    have hT6 := lt_of_heap q4
    refine (IH.out.seq P g c ⟨st.i + 1, st.ok⟩ x6 h6 (by have := HN.out; have := h6.inb; simp only at this ⊢; omega)).mono ?_
    rintro e x7 ⟨k2, a2, nm2, n2, s2, ls2, args2, arms2, A52, n52, c52, A62, n62, c62, A72, n72, c72, st2, rfl, hx2, hr2, hst2, f7⟩
    have g0 := f7.keep g0 (by simpa using nB)
    have q4 := f7.keep q4 (by simp; omega)
    have F7 := F6.trans f7
    have hT7 := lt_of_heap q4
    have hx2 := hx2.keep (ok' := fun b => B < b ∧ ¬ b = T3 + 1 ∧ ¬ b = P) (Sh.of_fr (Fr.refl [] x7) (fun b hb hlt => ⟨by have : x6.heap.size ≤ b := hb; exact ⟨by omega, by omega, by omega⟩, fun x => by cases x⟩))
    obtain ⟨⟨m0, m1, m2, m3, m4, m5, m6, m7⟩, j0, j1, j2, j3, j4, j5, j6, j7⟩ := cells8 q4
    have HG := Lib.hid (st8_heap q4 (.int .i64 k2) (.int .i64 a2) (.string ⟨nm2.toArray⟩) (.int .i64 n2) (.string ⟨s2.toArray⟩) (.slice A52 n52 c52) (.slice A62 n62 c62) (.slice A72 n72 c72))
    have HB0 := Lib.hid ((st8_fr x7 (T3 + 1) (.int .i64 k2) (.int .i64 a2) (.string ⟨nm2.toArray⟩) (.int .i64 n2) (.string ⟨s2.toArray⟩) (.slice A52 n52 c52) (.slice A62 n62 c62) (.slice A72 n72 c72)).keep g0 (by simp; omega))
    have HF := Lib.hid ((F7).step (st8_fr x7 (T3 + 1) (.int .i64 k2) (.int .i64 a2) (.string ⟨nm2.toArray⟩) (.int .i64 n2) (.string ⟨s2.toArray⟩) (.slice A52 n52 c52) (.slice A62 n62 c62) (.slice A72 n72 c72)) (fun x hx => .inr (by simp at hx; omega)))
    have HP := Lib.hid ((hst2).frL (st8_fr x7 (T3 + 1) (.int .i64 k2) (.int .i64 a2) (.string ⟨nm2.toArray⟩) (.int .i64 n2) (.string ⟨s2.toArray⟩) (.slice A52 n52 c52) (.slice A62 n62 c62) (.slice A72 n72 c72)) (by simp; omega) (by simp; omega))
    have HS := Lib.hid (st8_size x7 (T3 + 1) (.int .i64 k2) (.int .i64 a2) (.string ⟨nm2.toArray⟩) (.int .i64 n2) (.string ⟨s2.toArray⟩) (.slice A52 n52 c52) (.slice A62 n62 c62) (.slice A72 n72 c72))
    have HX2 : Hid (ExprAt (st8 x7 (T3 + 1) (.int .i64 k2) (.int .i64 a2) (.string ⟨nm2.toArray⟩) (.int .i64 n2) (.string ⟨s2.toArray⟩) (.slice A52 n52 c52) (.slice A62 n62 c62) (.slice A72 n72 c72)) (fun b => B < b ∧ ¬ b = (T3 + 1) ∧ ¬ b = P) (.mk k2 a2 nm2 n2 s2 ls2 args2 arms2) [.int .i64 k2, .int .i64 a2, .string ⟨nm2.toArray⟩, .int .i64 n2, .string ⟨s2.toArray⟩, .slice A52 n52 c52, .slice A62 n62 c62, .slice A72 n72 c72]) := Lib.hid ((hx2).keep (Sh.of_fr (st8_fr x7 (T3 + 1) (.int .i64 k2) (.int .i64 a2) (.string ⟨nm2.toArray⟩) (.int .i64 n2) (.string ⟨s2.toArray⟩) (.slice A52 n52 c52) (.slice A62 n62 c62) (.slice A72 n72 c72)) (fun b hb hlt => ⟨hb, by simp; exact hb.2.1⟩)))
    unfold st8 at HG HB0 HF HP HS HX2
    go_wp2_with fail
    generalize (((((((x7.setCell ⟨T3 + 1, 0, none⟩ (.int .i64 k2)).setCell ⟨T3 + 1, 1, none⟩ (.int .i64 a2)).setCell ⟨T3 + 1, 2, none⟩ (.string ⟨nm2.toArray⟩)).setCell ⟨T3 + 1, 3, none⟩ (.int .i64 n2)).setCell ⟨T3 + 1, 4, none⟩ (.string ⟨s2.toArray⟩)).setCell ⟨T3 + 1, 5, none⟩ (.slice A52 n52 c52)).setCell ⟨T3 + 1, 6, none⟩ (.slice A62 n62 c62)).setCell ⟨T3 + 1, 7, none⟩ (.slice A72 n72 c72) = Z at HG HB0 HF HP HS HX2 ⊢
    clear m0 m1 m2 m3 m4 m5 m6 m7 j0 j1 j2 j3 j4 j5 j6 j7
    obtain ⟨v, hv⟩ := tok_at hst2.inb
    refine (must_any [41] P g c ts st2 v hv Z HP.out HE.out).mono ?_
    rintro e x9 ⟨rfl, h9, f9⟩
    have g0 := f9.keep HB0.out (by simpa using nB)
    have q4 := f9.keep HG.out (by simp; omega)
    have F9 := HF.out.trans f9
    have hx2 := HX2.out.keep (ok' := fun b => B < b) (Sh.of_fr f9 (fun b hb hlt => ⟨hb.1, by simp; exact hb.2.2⟩))
    obtain ⟨⟨l0, l1, l2, l3, l4, l5, l6, l7⟩, _⟩ := cells8 q4
    clear HG HB0 HF HP HS HX2
    have HG := Lib.hid (st8_heap g0 (.int .i64 k2) (.int .i64 a2) (.string ⟨nm2.toArray⟩) (.int .i64 n2) (.string ⟨s2.toArray⟩) (.slice A52 n52 c52) (.slice A62 n62 c62) (.slice A72 n72 c72))
    have HF := Lib.hid ((F9).step (st8_fr x9 B (.int .i64 k2) (.int .i64 a2) (.string ⟨nm2.toArray⟩) (.int .i64 n2) (.string ⟨s2.toArray⟩) (.slice A52 n52 c52) (.slice A62 n62 c62) (.slice A72 n72 c72)) (fun x hx => .inr (by simp at hx; omega)))
    have HP := Lib.hid ((h9).frL (st8_fr x9 B (.int .i64 k2) (.int .i64 a2) (.string ⟨nm2.toArray⟩) (.int .i64 n2) (.string ⟨s2.toArray⟩) (.slice A52 n52 c52) (.slice A62 n62 c62) (.slice A72 n72 c72)) (by simpa using nP) (by simpa using ng))
    have HX : Hid (ExprAt (st8 x9 B (.int .i64 k2) (.int .i64 a2) (.string ⟨nm2.toArray⟩) (.int .i64 n2) (.string ⟨s2.toArray⟩) (.slice A52 n52 c52) (.slice A62 n62 c62) (.slice A72 n72 c72)) (fun b => B ≤ b) (.mk k2 a2 nm2 n2 s2 ls2 args2 arms2) [.int .i64 k2, .int .i64 a2, .string ⟨nm2.toArray⟩, .int .i64 n2, .string ⟨s2.toArray⟩, .slice A52 n52 c52, .slice A62 n62 c62, .slice A72 n72 c72]) := Lib.hid ((hx2).keep (Sh.of_fr (st8_fr x9 B (.int .i64 k2) (.int .i64 a2) (.string ⟨nm2.toArray⟩) (.int .i64 n2) (.string ⟨s2.toArray⟩) (.slice A52 n52 c52) (.slice A62 n62 c62) (.slice A72 n72 c72)) (fun b hb hlt => ⟨by omega, by simp; omega⟩)))
    unfold st8 at HG HF HP HX
    obtain ⟨⟨u0, u1, u2, u3, u4, u5, u6, u7⟩, z0, z1, z2, z3, z4, z5, z6, z7⟩ := cells8 g0
    go_wp2_with fail
    generalize (((((((x9.setCell ⟨B, 0, none⟩ (.int .i64 k2)).setCell ⟨B, 1, none⟩ (.int .i64 a2)).setCell ⟨B, 2, none⟩ (.string ⟨nm2.toArray⟩)).setCell ⟨B, 3, none⟩ (.int .i64 n2)).setCell ⟨B, 4, none⟩ (.string ⟨s2.toArray⟩)).setCell ⟨B, 5, none⟩ (.slice A52 n52 c52)).setCell ⟨B, 6, none⟩ (.slice A62 n62 c62)).setCell ⟨B, 7, none⟩ (.slice A72 n72 c72) = Z at HG HF HP HX ⊢
    obtain ⟨⟨d0, d1, d2, d3, d4, d5, d6, d7⟩, _⟩ := cells8 HG.out
    refine bodyPost_ret (v := .agg #[.int .i64 k2, .int .i64 a2, .string ⟨nm2.toArray⟩, .int .i64 n2, .string ⟨s2.toArray⟩, .slice A52 n52 c52, .slice A62 n62 c62, .slice A72 n72 c72]) ?_ rfl ?_
    ·simp [results, Tryz.f85, go_sem, d0, d1, d2, d3, d4, d5, d6, d7]
    ·exact ⟨_, _, _, _, _, _, _, _, _, _, _, _, _, _, _, _, _, _, rfl, by rw [hB]; exact HX.out, HR.out _ _ (.may_no hu hb (.els (.callE hr2 (.must_ hv .retE)))), HP.out, HF.out⟩
end Go.Proofs.YtpjkfeehgookkaaGreatDoor
namespace Go.Proofs.YtpjkfeehgookkaaGreatDoor
open Go.RowKit
attribute [local go_sem ↓] Go.wp_at_zero Go.wp_at_succ
theorem PatAt.leaf (w : World) (ok : Nat → Prop) (k a : Int) (nm : List UInt8) (n : Int) (s : List UInt8) : PatAt w ok (.mk k a nm n s [] []) [.int .i64 k, .int .i64 a, .string ⟨nm.toArray⟩, .int .i64 n, .string ⟨s.toArray⟩, .slice none 0 0, .slice none 0 0] :=
 PatAt.of_rows (c5 := fun _ => []) (c6 := fun _ => []) RowG.nil_ RowG.nil_
def GM (ts : List Tok) (N : Nat) : Prop := ∀ (P g c : Nat) (st : St) (a : Int) (w : World), PSt P g c ts st w → 16 * (ts.length - st.i) < N → Calls Tryz.prog 131 #[.pointer (some ⟨P, 0, none⟩), .agg #[.int .i64 0, .int .i64 a, .string ⟨#[]⟩, .int .i64 0, .string ⟨#[]⟩, .slice none 0 0, .slice none 0 0]] w (PaOk P g c ts st (bodyP (.marked (.mk 0 a [] 0 [] [] []))) w)
set_option maxHeartbeats 8000000 in
set_option maxRecDepth 100000 in
theorem patom_step (ts : List Tok) (hE : EndOk ts) (N : Nat) (ihM : GM ts N) : GP ts (N + 1) 1 .patom 110 := by
 intro P g c st w h hm
 have IHM := Lib.hid ihM
 clear ihM
 have H := Lib.hid h
 have hP := lt_of_heap h.blk
 have hgl := h.lt
 have hin := h.inb
 have HN := Lib.hid hm
 have HE := Lib.hid hE
 clear h hm hE
 go_enter Tryz.func110, Tryz.ntmps110
 have f0 : Fr [] w (w.alloc (.cells #[.int .i64 0, .int .i64 0, .string ⟨#[]⟩, .int .i64 0, .string ⟨#[]⟩, .slice none 0 0, .slice none 0 0] 62)) := (Fr.refl [] w).alloc _
 have h0 := H.out.fr f0
 obtain ⟨p0, p1, p2, _⟩ := cells3 H.out.blk
 have g0 := heap_new w (.cells #[.int .i64 0, .int .i64 0, .string ⟨#[]⟩, .int .i64 0, .string ⟨#[]⟩, .slice none 0 0, .slice none 0 0] 62)
 obtain ⟨t, ht⟩ := tok_at hin
 cases hok : st.ok with
 | false =>
  rw [hok] at p2
  have HOK := Lib.hid hok
  clear hok
  go_wp2_with fail
  obtain ⟨⟨d0, d1, d2, d3, d4, d5, d6⟩, _⟩ := cells7 g0
  refine bodyPost_ret (v := .agg #[.int .i64 0, .int .i64 0, .string ⟨#[]⟩, .int .i64 0, .string ⟨#[]⟩, .slice none 0 0, .slice none 0 0]) ?_ rfl ?_
  ·simp [results, Tryz.f110, go_sem, d0, d1, d2, d3, d4, d5, d6]
  ·exact ⟨_, _, _, _, _, _, _, _, _, _, _, _, _, _, rfl, PatAt.leaf _ _ 0 0 [] 0 [], .look ht (by rw [if_pos HOK.out]; exact .retP), h0, f0.mono (fun x hx => by cases hx)⟩
 | true =>
  rw [hok] at p2
  go_wp2_with fail
  clear p0 p1 p2
  generalize w.alloc (.cells #[.int .i64 0, .int .i64 0, .string ⟨#[]⟩, .int .i64 0, .string ⟨#[]⟩, .slice none 0 0, .slice none 0 0] 62) = w1 at *
  generalize hB : w.heap.size = B at *
  have hB1 := lt_of_heap g0
  have nP : ¬ P = B := by omega
  have nB : ¬ B = P := by omega
  have ng : ¬ g = B := by omega
  refine (now_any P g c ts st t ht w1 h0 HE.out).mono ?_
  rintro e x3 ⟨rfl, f3⟩
  have g0 := f3.keep g0 (fun x => by cases x)
  have h3 := h0.fr f3
  have F3 := f0.trans f3
  clear h0 f0 f3
  have HT := Lib.hid ht
  clear ht
  cases t with
  | mk tk ta tt tn =>
  simp only at *
  by_cases e0 : tk = 1
  ·subst e0
   go_wp2_with fail
   have q3 := heap_old (heap_new x3 (.cells #[.int .i64 1, .int .i64 ta, .string ⟨tt.toArray⟩, .int .i64 tn] 46)) (.cells #[.int .i64 0, .int .i64 ta, .string ⟨#[]⟩, .int .i64 0, .string ⟨#[]⟩, .slice none 0 0, .slice none 0 0] 62)
   have q4 := heap_new (x3.alloc (.cells #[.int .i64 1, .int .i64 ta, .string ⟨tt.toArray⟩, .int .i64 tn] 46)) (.cells #[.int .i64 0, .int .i64 ta, .string ⟨#[]⟩, .int .i64 0, .string ⟨#[]⟩, .slice none 0 0, .slice none 0 0] 62)
   have hsz : (x3.alloc (.cells #[.int .i64 1, .int .i64 ta, .string ⟨tt.toArray⟩, .int .i64 tn] 46)).heap.size = x3.heap.size + 1 := by simp
   rw [hsz] at q4
   clear hsz
   have fbb : Fr [] x3 ((x3.alloc (.cells #[.int .i64 1, .int .i64 ta, .string ⟨tt.toArray⟩, .int .i64 tn] 46)).alloc (.cells #[.int .i64 0, .int .i64 ta, .string ⟨#[]⟩, .int .i64 0, .string ⟨#[]⟩, .slice none 0 0, .slice none 0 0] 62)) := ((Fr.refl [] x3).alloc _).alloc _
   have hBT := lt_of_heap g0
   have hPT := lt_of_heap h3.blk
   have g0 := fbb.keep g0 (fun x => by cases x)
   have h5 := h3.fr fbb
   have F5 := F3.trans fbb
   generalize (x3.alloc (.cells #[.int .i64 1, .int .i64 ta, .string ⟨tt.toArray⟩, .int .i64 tn] 46)).alloc (.cells #[.int .i64 0, .int .i64 ta, .string ⟨#[]⟩, .int .i64 0, .string ⟨#[]⟩, .slice none 0 0, .slice none 0 0] 62) = x5 at *
   generalize x3.heap.size = T3 at *
   have hT4 := lt_of_heap q4
   obtain ⟨m0, m1, m2, m3, _⟩ := cells4 q3
   obtain ⟨⟨u0, u1, u2, u3, u4, u5, u6⟩, z0, z1, z2, z3, z4, z5, z6⟩ := cells7 q4
   go_region_held3 (fun w' => w'.cell? ⟨T3, 2, none⟩ = some (.string ⟨tt.toArray⟩)) (go_keep) (fail)
   have q6 : (((x5.setCell ⟨T3 + 1, 0, none⟩ (.int .i64 2)).setCell ⟨T3 + 1, 2, none⟩ (.string ⟨tt.toArray⟩)).drew).heap[T3 + 1]? = some (.cells #[.int .i64 2, .int .i64 ta, .string ⟨tt.toArray⟩, .int .i64 0, .string ⟨#[]⟩, .slice none 0 0, .slice none 0 0] 62 (0, 0)) := set_at (set_at q4 0 (.int .i64 2)) 2 (.string ⟨tt.toArray⟩)
   have fs : Fr [T3 + 1] x5 (((x5.setCell ⟨T3 + 1, 0, none⟩ (.int .i64 2)).setCell ⟨T3 + 1, 2, none⟩ (.string ⟨tt.toArray⟩)).drew) := (((Fr.refl [T3 + 1] x5).setCell (p := ⟨T3 + 1, 0, none⟩) (.inl (by simp)) _).setCell (p := ⟨T3 + 1, 2, none⟩) (.inl (by simp)) _).drew
   have q3 := fs.keep q3 (by simp)
   have g0 := fs.keep g0 (by simp; omega)
   have h6 := h5.frL fs (by simp; omega) (by simp; omega)
   have F6 := F5.step fs (fun x hx => .inr (by simp at hx; omega))
   clear m0 m1 m2 m3 u0 u1 u2 u3 u4 u5 u6 z0 z1 z2 z3 z4 z5 z6 q4
   generalize ((x5.setCell ⟨T3 + 1, 0, none⟩ (.int .i64 2)).setCell ⟨T3 + 1, 2, none⟩ (.string ⟨tt.toArray⟩)).drew = x6 at *
   obtain ⟨m0, m1, m2, m3, _⟩ := cells4 q3
   by_cases d0 : tt = [95]
   ·subst d0
    obtain ⟨⟨u0, u1, u2, u3, u4, u5, u6⟩, z0, z1, z2, z3, z4, z5, z6⟩ := cells7 q6
    have q9 := q6
    have hT9 := lt_of_heap q9
    clear q6
    go_wp2_with fail
    clear m0 m1 m2 m3 u0 u1 u2 u3 u4 u5 u6 z0 z1 z2 z3 z4 z5 z6
    have q6 : ((x6.setCell ⟨T3 + 1, 0, none⟩ (.int .i64 1)).setCell ⟨T3 + 1, 2, none⟩ (.string ⟨#[]⟩)).heap[T3 + 1]? = some (.cells #[.int .i64 1, .int .i64 ta, .string ⟨#[]⟩, .int .i64 0, .string ⟨#[]⟩, .slice none 0 0, .slice none 0 0] 62 (0, 0)) := set_at (set_at q9 0 (.int .i64 1)) 2 (.string ⟨#[]⟩)
    have fs : Fr [T3 + 1] x6 ((x6.setCell ⟨T3 + 1, 0, none⟩ (.int .i64 1)).setCell ⟨T3 + 1, 2, none⟩ (.string ⟨#[]⟩)) := (((Fr.refl [T3 + 1] x6).setCell (p := ⟨T3 + 1, 0, none⟩) (.inl (by simp)) _).setCell (p := ⟨T3 + 1, 2, none⟩) (.inl (by simp)) _)
    have g0 := fs.keep g0 (by simp; omega)
    have h6 := h6.frL fs (by simp; omega) (by simp; omega)
    have F6 := F6.step fs (fun x hx => .inr (by simp at hx; omega))
    clear q9
    generalize (x6.setCell ⟨T3 + 1, 0, none⟩ (.int .i64 1)).setCell ⟨T3 + 1, 2, none⟩ (.string ⟨#[]⟩) = x6 at *
    refine (next_any P g c ts st ⟨1, ta, [95], tn⟩ HT.out hok (by simp) x6 h6 HE.out).mono ?_
    rintro e x7 ⟨rfl, h7, f7⟩
    have g0 := f7.keep g0 (by simpa using nB)
    have q6 := f7.keep q6 (by simp; omega)
    have F7 := (F6.mono (L' := [P]) (fun x hx => by cases hx)).trans f7
    obtain ⟨⟨l0, l1, l2, l3, l4, l5, l6⟩, _⟩ := cells7 q6
    have HOK := Lib.hid hok
    have HT2 := HT
    clear hok
    have hBT := lt_of_heap g0
    have HG := Lib.hid (st7_heap g0 (.int .i64 1) (.int .i64 ta) (.string ⟨#[]⟩) (.int .i64 0) (.string ⟨#[]⟩) (.slice none 0 0) (.slice none 0 0))
    have HF := Lib.hid ((F7).step (st7_fr x7 B (.int .i64 1) (.int .i64 ta) (.string ⟨#[]⟩) (.int .i64 0) (.string ⟨#[]⟩) (.slice none 0 0) (.slice none 0 0)) (fun x hx => .inr (by simp at hx; omega)))
    have HP := Lib.hid ((h7).frL (st7_fr x7 B (.int .i64 1) (.int .i64 ta) (.string ⟨#[]⟩) (.int .i64 0) (.string ⟨#[]⟩) (.slice none 0 0) (.slice none 0 0)) (by simpa using nP) (by simpa using ng))
    unfold st7 at HG HF HP
    obtain ⟨⟨u0, u1, u2, u3, u4, u5, u6⟩, z0, z1, z2, z3, z4, z5, z6⟩ := cells7 g0
    go_wp2_with fail
    generalize ((((((x7.setCell ⟨B, 0, none⟩ (.int .i64 1)).setCell ⟨B, 1, none⟩ (.int .i64 ta)).setCell ⟨B, 2, none⟩ (.string ⟨#[]⟩)).setCell ⟨B, 3, none⟩ (.int .i64 0)).setCell ⟨B, 4, none⟩ (.string ⟨#[]⟩)).setCell ⟨B, 5, none⟩ (.slice none 0 0)).setCell ⟨B, 6, none⟩ (.slice none 0 0) = Z at HG HF HP ⊢
    obtain ⟨⟨d0, d1, d2, d3, d4, d5, d6⟩, _⟩ := cells7 HG.out
    refine bodyPost_ret (v := .agg #[.int .i64 1, .int .i64 ta, .string ⟨#[]⟩, .int .i64 0, .string ⟨#[]⟩, .slice none 0 0, .slice none 0 0]) ?_ rfl ?_
    ·simp [results, Tryz.f110, go_sem, d0, d1, d2, d3, d4, d5, d6]
    ·exact ⟨_, _, _, _, _, _, _, _, _, _, _, _, _, _, rfl, PatAt.leaf _ _ 1 ta [] 0 [], .look HT2.out (by rw [if_neg (by rw [HOK.out]; decide)]; simp; exact .adv .retP), HP.out, HF.out⟩
   ·have c0 : (tt == [95]) = false := beq_eq_false_iff_ne.2 d0
    have D0 := Lib.hid d0
    clear d0
    go_wp2_with fail
    clear m0 m1 m2 m3
    refine (next_any P g c ts st ⟨1, ta, tt, tn⟩ HT.out hok (by simp) x6 h6 HE.out).mono ?_
    rintro e x7 ⟨rfl, h7, f7⟩
    have g0 := f7.keep g0 (by simpa using nB)
    have q6 := f7.keep q6 (by simp; omega)
    have F7 := (F6.mono (L' := [P]) (fun x hx => by cases hx)).trans f7
    obtain ⟨⟨l0, l1, l2, l3, l4, l5, l6⟩, _⟩ := cells7 q6
    have HOK := Lib.hid hok
    have HT2 := HT
    clear hok
    have hBT := lt_of_heap g0
    have HG := Lib.hid (st7_heap g0 (.int .i64 2) (.int .i64 ta) (.string ⟨tt.toArray⟩) (.int .i64 0) (.string ⟨#[]⟩) (.slice none 0 0) (.slice none 0 0))
    have HF := Lib.hid ((F7).step (st7_fr x7 B (.int .i64 2) (.int .i64 ta) (.string ⟨tt.toArray⟩) (.int .i64 0) (.string ⟨#[]⟩) (.slice none 0 0) (.slice none 0 0)) (fun x hx => .inr (by simp at hx; omega)))
    have HP := Lib.hid ((h7).frL (st7_fr x7 B (.int .i64 2) (.int .i64 ta) (.string ⟨tt.toArray⟩) (.int .i64 0) (.string ⟨#[]⟩) (.slice none 0 0) (.slice none 0 0)) (by simpa using nP) (by simpa using ng))
    unfold st7 at HG HF HP
    obtain ⟨⟨u0, u1, u2, u3, u4, u5, u6⟩, z0, z1, z2, z3, z4, z5, z6⟩ := cells7 g0
    go_wp2_with fail
    generalize ((((((x7.setCell ⟨B, 0, none⟩ (.int .i64 2)).setCell ⟨B, 1, none⟩ (.int .i64 ta)).setCell ⟨B, 2, none⟩ (.string ⟨tt.toArray⟩)).setCell ⟨B, 3, none⟩ (.int .i64 0)).setCell ⟨B, 4, none⟩ (.string ⟨#[]⟩)).setCell ⟨B, 5, none⟩ (.slice none 0 0)).setCell ⟨B, 6, none⟩ (.slice none 0 0) = Z at HG HF HP ⊢
    obtain ⟨⟨d0, d1, d2, d3, d4, d5, d6⟩, _⟩ := cells7 HG.out
    refine bodyPost_ret (v := .agg #[.int .i64 2, .int .i64 ta, .string ⟨tt.toArray⟩, .int .i64 0, .string ⟨#[]⟩, .slice none 0 0, .slice none 0 0]) ?_ rfl ?_
    ·simp [results, Tryz.f110, go_sem, d0, d1, d2, d3, d4, d5, d6]
    ·exact ⟨_, _, _, _, _, _, _, _, _, _, _, _, _, _, rfl, PatAt.leaf _ _ 2 ta tt 0 [], .look HT2.out (by rw [if_neg (by rw [HOK.out]; decide)]; simp [D0.out]; exact .adv .retP), HP.out, HF.out⟩
  by_cases e1 : tk = 2
  ·subst e1
   go_wp2_with fail
   have q3 := heap_old (heap_new x3 (.cells #[.int .i64 2, .int .i64 ta, .string ⟨tt.toArray⟩, .int .i64 tn] 46)) (.cells #[.int .i64 0, .int .i64 ta, .string ⟨#[]⟩, .int .i64 0, .string ⟨#[]⟩, .slice none 0 0, .slice none 0 0] 62)
   have q4 := heap_new (x3.alloc (.cells #[.int .i64 2, .int .i64 ta, .string ⟨tt.toArray⟩, .int .i64 tn] 46)) (.cells #[.int .i64 0, .int .i64 ta, .string ⟨#[]⟩, .int .i64 0, .string ⟨#[]⟩, .slice none 0 0, .slice none 0 0] 62)
   have hsz : (x3.alloc (.cells #[.int .i64 2, .int .i64 ta, .string ⟨tt.toArray⟩, .int .i64 tn] 46)).heap.size = x3.heap.size + 1 := by simp
   rw [hsz] at q4
   clear hsz
   have fbb : Fr [] x3 ((x3.alloc (.cells #[.int .i64 2, .int .i64 ta, .string ⟨tt.toArray⟩, .int .i64 tn] 46)).alloc (.cells #[.int .i64 0, .int .i64 ta, .string ⟨#[]⟩, .int .i64 0, .string ⟨#[]⟩, .slice none 0 0, .slice none 0 0] 62)) := ((Fr.refl [] x3).alloc _).alloc _
   have hBT := lt_of_heap g0
   have hPT := lt_of_heap h3.blk
   have g0 := fbb.keep g0 (fun x => by cases x)
   have h5 := h3.fr fbb
   have F5 := F3.trans fbb
   generalize (x3.alloc (.cells #[.int .i64 2, .int .i64 ta, .string ⟨tt.toArray⟩, .int .i64 tn] 46)).alloc (.cells #[.int .i64 0, .int .i64 ta, .string ⟨#[]⟩, .int .i64 0, .string ⟨#[]⟩, .slice none 0 0, .slice none 0 0] 62) = x5 at *
   generalize x3.heap.size = T3 at *
   have hT4 := lt_of_heap q4
   obtain ⟨m0, m1, m2, m3, _⟩ := cells4 q3
   obtain ⟨⟨u0, u1, u2, u3, u4, u5, u6⟩, z0, z1, z2, z3, z4, z5, z6⟩ := cells7 q4
   go_region_held3 (fun w' => w'.cell? ⟨T3, 2, none⟩ = some (.string ⟨tt.toArray⟩)) (go_keep) (fail)
   have q6 : (((x5.setCell ⟨T3 + 1, 0, none⟩ (.int .i64 7)).setCell ⟨T3 + 1, 2, none⟩ (.string ⟨tt.toArray⟩)).drew).heap[T3 + 1]? = some (.cells #[.int .i64 7, .int .i64 ta, .string ⟨tt.toArray⟩, .int .i64 0, .string ⟨#[]⟩, .slice none 0 0, .slice none 0 0] 62 (0, 0)) := set_at (set_at q4 0 (.int .i64 7)) 2 (.string ⟨tt.toArray⟩)
   have fs : Fr [T3 + 1] x5 (((x5.setCell ⟨T3 + 1, 0, none⟩ (.int .i64 7)).setCell ⟨T3 + 1, 2, none⟩ (.string ⟨tt.toArray⟩)).drew) := (((Fr.refl [T3 + 1] x5).setCell (p := ⟨T3 + 1, 0, none⟩) (.inl (by simp)) _).setCell (p := ⟨T3 + 1, 2, none⟩) (.inl (by simp)) _).drew
   have q3 := fs.keep q3 (by simp)
   have g0 := fs.keep g0 (by simp; omega)
   have h6 := h5.frL fs (by simp; omega) (by simp; omega)
   have F6 := F5.step fs (fun x hx => .inr (by simp at hx; omega))
   clear m0 m1 m2 m3 u0 u1 u2 u3 u4 u5 u6 z0 z1 z2 z3 z4 z5 z6 q4
   generalize ((x5.setCell ⟨T3 + 1, 0, none⟩ (.int .i64 7)).setCell ⟨T3 + 1, 2, none⟩ (.string ⟨tt.toArray⟩)).drew = x6 at *
   go_wp2_with fail
   refine (next_any P g c ts st ⟨2, ta, tt, tn⟩ HT.out hok (by simp) x6 h6 HE.out).mono ?_
   rintro e x7 ⟨rfl, h7, f7⟩
   have g0 := f7.keep g0 (by simpa using nB)
   have q6 := f7.keep q6 (by simp; omega)
   have F7 := (F6.mono (L' := [P]) (fun x hx => by cases hx)).trans f7
   obtain ⟨⟨l0, l1, l2, l3, l4, l5, l6⟩, _⟩ := cells7 q6
   have HOK := Lib.hid hok
   have HT2 := HT
   clear hok
   have hBT := lt_of_heap g0
   have HG := Lib.hid (st7_heap g0 (.int .i64 7) (.int .i64 ta) (.string ⟨tt.toArray⟩) (.int .i64 0) (.string ⟨#[]⟩) (.slice none 0 0) (.slice none 0 0))
   have HF := Lib.hid ((F7).step (st7_fr x7 B (.int .i64 7) (.int .i64 ta) (.string ⟨tt.toArray⟩) (.int .i64 0) (.string ⟨#[]⟩) (.slice none 0 0) (.slice none 0 0)) (fun x hx => .inr (by simp at hx; omega)))
   have HP := Lib.hid ((h7).frL (st7_fr x7 B (.int .i64 7) (.int .i64 ta) (.string ⟨tt.toArray⟩) (.int .i64 0) (.string ⟨#[]⟩) (.slice none 0 0) (.slice none 0 0)) (by simpa using nP) (by simpa using ng))
   unfold st7 at HG HF HP
   obtain ⟨⟨u0, u1, u2, u3, u4, u5, u6⟩, z0, z1, z2, z3, z4, z5, z6⟩ := cells7 g0
   go_wp2_with fail
   generalize ((((((x7.setCell ⟨B, 0, none⟩ (.int .i64 7)).setCell ⟨B, 1, none⟩ (.int .i64 ta)).setCell ⟨B, 2, none⟩ (.string ⟨tt.toArray⟩)).setCell ⟨B, 3, none⟩ (.int .i64 0)).setCell ⟨B, 4, none⟩ (.string ⟨#[]⟩)).setCell ⟨B, 5, none⟩ (.slice none 0 0)).setCell ⟨B, 6, none⟩ (.slice none 0 0) = Z at HG HF HP ⊢
   obtain ⟨⟨d0, d1, d2, d3, d4, d5, d6⟩, _⟩ := cells7 HG.out
   refine bodyPost_ret (v := .agg #[.int .i64 7, .int .i64 ta, .string ⟨tt.toArray⟩, .int .i64 0, .string ⟨#[]⟩, .slice none 0 0, .slice none 0 0]) ?_ rfl ?_
   ·simp [results, Tryz.f110, go_sem, d0, d1, d2, d3, d4, d5, d6]
   ·exact ⟨_, _, _, _, _, _, _, _, _, _, _, _, _, _, rfl, PatAt.leaf _ _ 7 ta tt 0 [], .look HT2.out (by rw [if_neg (by rw [HOK.out]; decide)]; simp; exact .adv .retP), HP.out, HF.out⟩
  by_cases e2 : tk = 4
  ·subst e2
   go_wp2_with fail
   have q3 := heap_old (heap_new x3 (.cells #[.int .i64 4, .int .i64 ta, .string ⟨tt.toArray⟩, .int .i64 tn] 46)) (.cells #[.int .i64 0, .int .i64 ta, .string ⟨#[]⟩, .int .i64 0, .string ⟨#[]⟩, .slice none 0 0, .slice none 0 0] 62)
   have q4 := heap_new (x3.alloc (.cells #[.int .i64 4, .int .i64 ta, .string ⟨tt.toArray⟩, .int .i64 tn] 46)) (.cells #[.int .i64 0, .int .i64 ta, .string ⟨#[]⟩, .int .i64 0, .string ⟨#[]⟩, .slice none 0 0, .slice none 0 0] 62)
   have hsz : (x3.alloc (.cells #[.int .i64 4, .int .i64 ta, .string ⟨tt.toArray⟩, .int .i64 tn] 46)).heap.size = x3.heap.size + 1 := by simp
   rw [hsz] at q4
   clear hsz
   have fbb : Fr [] x3 ((x3.alloc (.cells #[.int .i64 4, .int .i64 ta, .string ⟨tt.toArray⟩, .int .i64 tn] 46)).alloc (.cells #[.int .i64 0, .int .i64 ta, .string ⟨#[]⟩, .int .i64 0, .string ⟨#[]⟩, .slice none 0 0, .slice none 0 0] 62)) := ((Fr.refl [] x3).alloc _).alloc _
   have hBT := lt_of_heap g0
   have hPT := lt_of_heap h3.blk
   have g0 := fbb.keep g0 (fun x => by cases x)
   have h5 := h3.fr fbb
   have F5 := F3.trans fbb
   generalize (x3.alloc (.cells #[.int .i64 4, .int .i64 ta, .string ⟨tt.toArray⟩, .int .i64 tn] 46)).alloc (.cells #[.int .i64 0, .int .i64 ta, .string ⟨#[]⟩, .int .i64 0, .string ⟨#[]⟩, .slice none 0 0, .slice none 0 0] 62) = x5 at *
   generalize x3.heap.size = T3 at *
   have hT4 := lt_of_heap q4
   obtain ⟨m0, m1, m2, m3, _⟩ := cells4 q3
   obtain ⟨⟨u0, u1, u2, u3, u4, u5, u6⟩, z0, z1, z2, z3, z4, z5, z6⟩ := cells7 q4
   go_region_held3 (fun w' => w'.cell? ⟨T3, 3, none⟩ = some (.int .i64 tn)) (go_keep) (fail)
   have q6 : (((x5.setCell ⟨T3 + 1, 0, none⟩ (.int .i64 3)).setCell ⟨T3 + 1, 3, none⟩ (.int .i64 tn)).drew).heap[T3 + 1]? = some (.cells #[.int .i64 3, .int .i64 ta, .string ⟨#[]⟩, .int .i64 tn, .string ⟨#[]⟩, .slice none 0 0, .slice none 0 0] 62 (0, 0)) := set_at (set_at q4 0 (.int .i64 3)) 3 (.int .i64 tn)
   have fs : Fr [T3 + 1] x5 (((x5.setCell ⟨T3 + 1, 0, none⟩ (.int .i64 3)).setCell ⟨T3 + 1, 3, none⟩ (.int .i64 tn)).drew) := (((Fr.refl [T3 + 1] x5).setCell (p := ⟨T3 + 1, 0, none⟩) (.inl (by simp)) _).setCell (p := ⟨T3 + 1, 3, none⟩) (.inl (by simp)) _).drew
   have q3 := fs.keep q3 (by simp)
   have g0 := fs.keep g0 (by simp; omega)
   have h6 := h5.frL fs (by simp; omega) (by simp; omega)
   have F6 := F5.step fs (fun x hx => .inr (by simp at hx; omega))
   clear m0 m1 m2 m3 u0 u1 u2 u3 u4 u5 u6 z0 z1 z2 z3 z4 z5 z6 q4
   generalize ((x5.setCell ⟨T3 + 1, 0, none⟩ (.int .i64 3)).setCell ⟨T3 + 1, 3, none⟩ (.int .i64 tn)).drew = x6 at *
   go_wp2_with fail
   refine (next_any P g c ts st ⟨4, ta, tt, tn⟩ HT.out hok (by simp) x6 h6 HE.out).mono ?_
   rintro e x7 ⟨rfl, h7, f7⟩
   have g0 := f7.keep g0 (by simpa using nB)
   have q6 := f7.keep q6 (by simp; omega)
   have F7 := (F6.mono (L' := [P]) (fun x hx => by cases hx)).trans f7
   obtain ⟨⟨l0, l1, l2, l3, l4, l5, l6⟩, _⟩ := cells7 q6
   have HOK := Lib.hid hok
   have HT2 := HT
   clear hok
   have hBT := lt_of_heap g0
   have HG := Lib.hid (st7_heap g0 (.int .i64 3) (.int .i64 ta) (.string ⟨#[]⟩) (.int .i64 tn) (.string ⟨#[]⟩) (.slice none 0 0) (.slice none 0 0))
   have HF := Lib.hid ((F7).step (st7_fr x7 B (.int .i64 3) (.int .i64 ta) (.string ⟨#[]⟩) (.int .i64 tn) (.string ⟨#[]⟩) (.slice none 0 0) (.slice none 0 0)) (fun x hx => .inr (by simp at hx; omega)))
   have HP := Lib.hid ((h7).frL (st7_fr x7 B (.int .i64 3) (.int .i64 ta) (.string ⟨#[]⟩) (.int .i64 tn) (.string ⟨#[]⟩) (.slice none 0 0) (.slice none 0 0)) (by simpa using nP) (by simpa using ng))
   unfold st7 at HG HF HP
   obtain ⟨⟨u0, u1, u2, u3, u4, u5, u6⟩, z0, z1, z2, z3, z4, z5, z6⟩ := cells7 g0
   go_wp2_with fail
   generalize ((((((x7.setCell ⟨B, 0, none⟩ (.int .i64 3)).setCell ⟨B, 1, none⟩ (.int .i64 ta)).setCell ⟨B, 2, none⟩ (.string ⟨#[]⟩)).setCell ⟨B, 3, none⟩ (.int .i64 tn)).setCell ⟨B, 4, none⟩ (.string ⟨#[]⟩)).setCell ⟨B, 5, none⟩ (.slice none 0 0)).setCell ⟨B, 6, none⟩ (.slice none 0 0) = Z at HG HF HP ⊢
   obtain ⟨⟨d0, d1, d2, d3, d4, d5, d6⟩, _⟩ := cells7 HG.out
   refine bodyPost_ret (v := .agg #[.int .i64 3, .int .i64 ta, .string ⟨#[]⟩, .int .i64 tn, .string ⟨#[]⟩, .slice none 0 0, .slice none 0 0]) ?_ rfl ?_
   ·simp [results, Tryz.f110, go_sem, d0, d1, d2, d3, d4, d5, d6]
   ·exact ⟨_, _, _, _, _, _, _, _, _, _, _, _, _, _, rfl, PatAt.leaf _ _ 3 ta [] tn [], .look HT2.out (by rw [if_neg (by rw [HOK.out]; decide)]; simp; exact .adv .retP), HP.out, HF.out⟩
  by_cases e3 : tk = 5
  ·subst e3
   go_wp2_with fail
   have q3 := heap_old (heap_new x3 (.cells #[.int .i64 5, .int .i64 ta, .string ⟨tt.toArray⟩, .int .i64 tn] 46)) (.cells #[.int .i64 0, .int .i64 ta, .string ⟨#[]⟩, .int .i64 0, .string ⟨#[]⟩, .slice none 0 0, .slice none 0 0] 62)
   have q4 := heap_new (x3.alloc (.cells #[.int .i64 5, .int .i64 ta, .string ⟨tt.toArray⟩, .int .i64 tn] 46)) (.cells #[.int .i64 0, .int .i64 ta, .string ⟨#[]⟩, .int .i64 0, .string ⟨#[]⟩, .slice none 0 0, .slice none 0 0] 62)
   have hsz : (x3.alloc (.cells #[.int .i64 5, .int .i64 ta, .string ⟨tt.toArray⟩, .int .i64 tn] 46)).heap.size = x3.heap.size + 1 := by simp
   rw [hsz] at q4
   clear hsz
   have fbb : Fr [] x3 ((x3.alloc (.cells #[.int .i64 5, .int .i64 ta, .string ⟨tt.toArray⟩, .int .i64 tn] 46)).alloc (.cells #[.int .i64 0, .int .i64 ta, .string ⟨#[]⟩, .int .i64 0, .string ⟨#[]⟩, .slice none 0 0, .slice none 0 0] 62)) := ((Fr.refl [] x3).alloc _).alloc _
   have hBT := lt_of_heap g0
   have hPT := lt_of_heap h3.blk
   have g0 := fbb.keep g0 (fun x => by cases x)
   have h5 := h3.fr fbb
   have F5 := F3.trans fbb
   generalize (x3.alloc (.cells #[.int .i64 5, .int .i64 ta, .string ⟨tt.toArray⟩, .int .i64 tn] 46)).alloc (.cells #[.int .i64 0, .int .i64 ta, .string ⟨#[]⟩, .int .i64 0, .string ⟨#[]⟩, .slice none 0 0, .slice none 0 0] 62) = x5 at *
   generalize x3.heap.size = T3 at *
   have hT4 := lt_of_heap q4
   obtain ⟨m0, m1, m2, m3, _⟩ := cells4 q3
   obtain ⟨⟨u0, u1, u2, u3, u4, u5, u6⟩, z0, z1, z2, z3, z4, z5, z6⟩ := cells7 q4
   go_region_held3 (fun w' => w'.cell? ⟨T3, 2, none⟩ = some (.string ⟨tt.toArray⟩)) (go_keep) (fail)
   have q6 : (((x5.setCell ⟨T3 + 1, 0, none⟩ (.int .i64 4)).setCell ⟨T3 + 1, 4, none⟩ (.string ⟨tt.toArray⟩)).drew).heap[T3 + 1]? = some (.cells #[.int .i64 4, .int .i64 ta, .string ⟨#[]⟩, .int .i64 0, .string ⟨tt.toArray⟩, .slice none 0 0, .slice none 0 0] 62 (0, 0)) := set_at (set_at q4 0 (.int .i64 4)) 4 (.string ⟨tt.toArray⟩)
   have fs : Fr [T3 + 1] x5 (((x5.setCell ⟨T3 + 1, 0, none⟩ (.int .i64 4)).setCell ⟨T3 + 1, 4, none⟩ (.string ⟨tt.toArray⟩)).drew) := (((Fr.refl [T3 + 1] x5).setCell (p := ⟨T3 + 1, 0, none⟩) (.inl (by simp)) _).setCell (p := ⟨T3 + 1, 4, none⟩) (.inl (by simp)) _).drew
   have q3 := fs.keep q3 (by simp)
   have g0 := fs.keep g0 (by simp; omega)
   have h6 := h5.frL fs (by simp; omega) (by simp; omega)
   have F6 := F5.step fs (fun x hx => .inr (by simp at hx; omega))
   clear m0 m1 m2 m3 u0 u1 u2 u3 u4 u5 u6 z0 z1 z2 z3 z4 z5 z6 q4
   generalize ((x5.setCell ⟨T3 + 1, 0, none⟩ (.int .i64 4)).setCell ⟨T3 + 1, 4, none⟩ (.string ⟨tt.toArray⟩)).drew = x6 at *
   go_wp2_with fail
   refine (next_any P g c ts st ⟨5, ta, tt, tn⟩ HT.out hok (by simp) x6 h6 HE.out).mono ?_
   rintro e x7 ⟨rfl, h7, f7⟩
   have g0 := f7.keep g0 (by simpa using nB)
   have q6 := f7.keep q6 (by simp; omega)
   have F7 := (F6.mono (L' := [P]) (fun x hx => by cases hx)).trans f7
   obtain ⟨⟨l0, l1, l2, l3, l4, l5, l6⟩, _⟩ := cells7 q6
   have HOK := Lib.hid hok
   have HT2 := HT
   clear hok
   have hBT := lt_of_heap g0
   have HG := Lib.hid (st7_heap g0 (.int .i64 4) (.int .i64 ta) (.string ⟨#[]⟩) (.int .i64 0) (.string ⟨tt.toArray⟩) (.slice none 0 0) (.slice none 0 0))
   have HF := Lib.hid ((F7).step (st7_fr x7 B (.int .i64 4) (.int .i64 ta) (.string ⟨#[]⟩) (.int .i64 0) (.string ⟨tt.toArray⟩) (.slice none 0 0) (.slice none 0 0)) (fun x hx => .inr (by simp at hx; omega)))
   have HP := Lib.hid ((h7).frL (st7_fr x7 B (.int .i64 4) (.int .i64 ta) (.string ⟨#[]⟩) (.int .i64 0) (.string ⟨tt.toArray⟩) (.slice none 0 0) (.slice none 0 0)) (by simpa using nP) (by simpa using ng))
   unfold st7 at HG HF HP
   obtain ⟨⟨u0, u1, u2, u3, u4, u5, u6⟩, z0, z1, z2, z3, z4, z5, z6⟩ := cells7 g0
   go_wp2_with fail
   generalize ((((((x7.setCell ⟨B, 0, none⟩ (.int .i64 4)).setCell ⟨B, 1, none⟩ (.int .i64 ta)).setCell ⟨B, 2, none⟩ (.string ⟨#[]⟩)).setCell ⟨B, 3, none⟩ (.int .i64 0)).setCell ⟨B, 4, none⟩ (.string ⟨tt.toArray⟩)).setCell ⟨B, 5, none⟩ (.slice none 0 0)).setCell ⟨B, 6, none⟩ (.slice none 0 0) = Z at HG HF HP ⊢
   obtain ⟨⟨d0, d1, d2, d3, d4, d5, d6⟩, _⟩ := cells7 HG.out
   refine bodyPost_ret (v := .agg #[.int .i64 4, .int .i64 ta, .string ⟨#[]⟩, .int .i64 0, .string ⟨tt.toArray⟩, .slice none 0 0, .slice none 0 0]) ?_ rfl ?_
   ·simp [results, Tryz.f110, go_sem, d0, d1, d2, d3, d4, d5, d6]
   ·exact ⟨_, _, _, _, _, _, _, _, _, _, _, _, _, _, rfl, PatAt.leaf _ _ 4 ta [] 0 tt, .look HT2.out (by rw [if_neg (by rw [HOK.out]; decide)]; simp; exact .adv .retP), HP.out, HF.out⟩
  have b0 : (tk == 1) = false := beq_eq_false_iff_ne.2 e0
  have b1 : (tk == 2) = false := beq_eq_false_iff_ne.2 e1
  have b2 : (tk == 4) = false := beq_eq_false_iff_ne.2 e2
  have b3 : (tk == 5) = false := beq_eq_false_iff_ne.2 e3
  have HOK := Lib.hid hok
  have HE4 := Lib.hid (And.intro e0 (And.intro e1 (And.intro e2 e3)))
  clear e0 e1 e2 e3 hok
  go_wp2_with fail
  have q3 := heap_old (heap_new x3 (.cells #[.int .i64 tk, .int .i64 ta, .string ⟨tt.toArray⟩, .int .i64 tn] 46)) (.cells #[.int .i64 0, .int .i64 ta, .string ⟨#[]⟩, .int .i64 0, .string ⟨#[]⟩, .slice none 0 0, .slice none 0 0] 62)
  have q4 := heap_new (x3.alloc (.cells #[.int .i64 tk, .int .i64 ta, .string ⟨tt.toArray⟩, .int .i64 tn] 46)) (.cells #[.int .i64 0, .int .i64 ta, .string ⟨#[]⟩, .int .i64 0, .string ⟨#[]⟩, .slice none 0 0, .slice none 0 0] 62)
  have hsz : (x3.alloc (.cells #[.int .i64 tk, .int .i64 ta, .string ⟨tt.toArray⟩, .int .i64 tn] 46)).heap.size = x3.heap.size + 1 := by simp
  rw [hsz] at q4
  clear hsz
  have fbb : Fr [] x3 ((x3.alloc (.cells #[.int .i64 tk, .int .i64 ta, .string ⟨tt.toArray⟩, .int .i64 tn] 46)).alloc (.cells #[.int .i64 0, .int .i64 ta, .string ⟨#[]⟩, .int .i64 0, .string ⟨#[]⟩, .slice none 0 0, .slice none 0 0] 62)) := ((Fr.refl [] x3).alloc _).alloc _
  have hBT := lt_of_heap g0
  have hPT := lt_of_heap h3.blk
  have g0 := fbb.keep g0 (fun x => by cases x)
  have h5 := h3.fr fbb
  have F5 := F3.trans fbb
  generalize (x3.alloc (.cells #[.int .i64 tk, .int .i64 ta, .string ⟨tt.toArray⟩, .int .i64 tn] 46)).alloc (.cells #[.int .i64 0, .int .i64 ta, .string ⟨#[]⟩, .int .i64 0, .string ⟨#[]⟩, .slice none 0 0, .slice none 0 0] 62) = x5 at *
  generalize x3.heap.size = T3 at *
  have hT4 := lt_of_heap q4
  obtain ⟨m0, m1, m2, m3, _⟩ := cells4 q3
  obtain ⟨⟨u0, u1, u2, u3, u4, u5, u6⟩, z0, z1, z2, z3, z4, z5, z6⟩ := cells7 q4
  clear m0 m1 m2 m3 u0 u1 u2 u3 u4 u5 u6 z0 z1 z2 z3 z4 z5 z6
  refine (IHM.out P g c st ta x5 h5 (by have := HN.out; omega)).mono ?_
  rintro e x6 ⟨k2, a2, nm2, n2, s2, ls2, args2, A52, n52, c52, A62, n62, c62, st2, rfl, hx2, hr2, hst2, f6⟩
  have g0 := f6.keep g0 (by simpa using nB)
  have hx2 := hx2.keep (ok' := fun b => B < b) (Sh.of_fr (Fr.refl [] x6) (fun b hb hlt => ⟨by have : x5.heap.size ≤ b := hb; omega, fun x => by cases x⟩))
  have hBT := lt_of_heap g0
  have HG := Lib.hid (st7_heap g0 (.int .i64 k2) (.int .i64 a2) (.string ⟨nm2.toArray⟩) (.int .i64 n2) (.string ⟨s2.toArray⟩) (.slice A52 n52 c52) (.slice A62 n62 c62))
  have HF := Lib.hid (((F5.mono (L' := [P]) (fun x hx => by cases hx)).trans f6).step (st7_fr x6 B (.int .i64 k2) (.int .i64 a2) (.string ⟨nm2.toArray⟩) (.int .i64 n2) (.string ⟨s2.toArray⟩) (.slice A52 n52 c52) (.slice A62 n62 c62)) (fun x hx => .inr (by simp at hx; omega)))
  have HP := Lib.hid ((hst2).frL (st7_fr x6 B (.int .i64 k2) (.int .i64 a2) (.string ⟨nm2.toArray⟩) (.int .i64 n2) (.string ⟨s2.toArray⟩) (.slice A52 n52 c52) (.slice A62 n62 c62)) (by simpa using nP) (by simpa using ng))
  have HX : Hid (PatAt (st7 x6 B (.int .i64 k2) (.int .i64 a2) (.string ⟨nm2.toArray⟩) (.int .i64 n2) (.string ⟨s2.toArray⟩) (.slice A52 n52 c52) (.slice A62 n62 c62)) (fun b => B ≤ b) (.mk k2 a2 nm2 n2 s2 ls2 args2) [.int .i64 k2, .int .i64 a2, .string ⟨nm2.toArray⟩, .int .i64 n2, .string ⟨s2.toArray⟩, .slice A52 n52 c52, .slice A62 n62 c62]) := Lib.hid ((hx2).keep (Sh.of_fr (st7_fr x6 B (.int .i64 k2) (.int .i64 a2) (.string ⟨nm2.toArray⟩) (.int .i64 n2) (.string ⟨s2.toArray⟩) (.slice A52 n52 c52) (.slice A62 n62 c62)) (fun b hb hlt => ⟨by omega, by simp; omega⟩)))
  unfold st7 at HG HF HP HX
  obtain ⟨⟨u0, u1, u2, u3, u4, u5, u6⟩, z0, z1, z2, z3, z4, z5, z6⟩ := cells7 g0
  go_wp2_with fail
  generalize ((((((x6.setCell ⟨B, 0, none⟩ (.int .i64 k2)).setCell ⟨B, 1, none⟩ (.int .i64 a2)).setCell ⟨B, 2, none⟩ (.string ⟨nm2.toArray⟩)).setCell ⟨B, 3, none⟩ (.int .i64 n2)).setCell ⟨B, 4, none⟩ (.string ⟨s2.toArray⟩)).setCell ⟨B, 5, none⟩ (.slice A52 n52 c52)).setCell ⟨B, 6, none⟩ (.slice A62 n62 c62) = Z at HG HF HP HX ⊢
  obtain ⟨⟨d0, d1, d2, d3, d4, d5, d6⟩, _⟩ := cells7 HG.out
  refine bodyPost_ret (v := .agg #[.int .i64 k2, .int .i64 a2, .string ⟨nm2.toArray⟩, .int .i64 n2, .string ⟨s2.toArray⟩, .slice A52 n52 c52, .slice A62 n62 c62]) ?_ rfl ?_
  ·simp [results, Tryz.f110, go_sem, d0, d1, d2, d3, d4, d5, d6]
  ·exact ⟨_, _, _, _, _, _, _, _, _, _, _, _, _, _, rfl, by rw [hB]; exact HX.out, .look HT.out (by rw [if_neg (by rw [HOK.out]; decide), if_neg HE4.out.1, if_neg HE4.out.2.1, if_neg HE4.out.2.2.1, if_neg HE4.out.2.2.2]; exact .callP hr2 .retP), HP.out, HF.out⟩
end Go.Proofs.YtpjkfeehgookkaaGreatDoor
namespace Go.Proofs.YtpjkfeehgookkaaGreatDoor
open Go.RowKit
attribute [local go_sem ↓] Go.wp_at_zero Go.wp_at_succ
set_option maxHeartbeats 8000000 in
set_option maxRecDepth 100000 in
theorem pat_step (ts : List Tok) (hE : EndOk ts) (N : Nat) (ihP : GP ts N 1 .patom 110) : GP ts (N + 1) 2 .pat 84 := by
 intro P g c st w h hm
 have IHP := Lib.hid ihP
 clear ihP
 have H := Lib.hid h
 have hP := lt_of_heap h.blk
 have hgl := h.lt
 have hin := h.inb
 have HN := Lib.hid hm
 have HE := Lib.hid hE
 clear h hm hE
 go_enter Tryz.func84, Tryz.ntmps84
 go_wp2_with fail
 have f0 : Fr [] w (w.alloc (.cells #[.int .i64 0, .int .i64 0, .string ⟨#[]⟩, .int .i64 0, .string ⟨#[]⟩, .slice none 0 0, .slice none 0 0] 62)) := (Fr.refl [] w).alloc _
 have g0 := heap_new w (.cells #[.int .i64 0, .int .i64 0, .string ⟨#[]⟩, .int .i64 0, .string ⟨#[]⟩, .slice none 0 0, .slice none 0 0] 62)
 generalize w.alloc (.cells #[.int .i64 0, .int .i64 0, .string ⟨#[]⟩, .int .i64 0, .string ⟨#[]⟩, .slice none 0 0, .slice none 0 0] 62) = w1 at *
 generalize hB : w.heap.size = B at *
 have hB1 := lt_of_heap g0
 have nP : ¬ P = B := by omega
 have nB : ¬ B = P := by omega
 have ng : ¬ g = B := by omega
 obtain ⟨t, ht⟩ := tok_at hin
 refine (now_any P g c ts st t ht w1 (H.out.fr f0) HE.out).mono ?_
 rintro e x3 ⟨rfl, f3⟩
 have hTB := lt_of_heap (f3.keep g0 (fun x => by cases x))
 have h3 := H.out.fr (f0.trans f3)
 have hP3 := lt_of_heap h3.blk
 have q3 := heap_new x3 (.cells #[.int .i64 t.k, .int .i64 t.at', .string ⟨t.text.toArray⟩, .int .i64 t.n] 46)
 have fb4 : Fr [] x3 (x3.alloc (.cells #[.int .i64 t.k, .int .i64 t.at', .string ⟨t.text.toArray⟩, .int .i64 t.n] 46)) := (Fr.refl [] x3).alloc _
 have f4 := (f0.trans f3).trans fb4
 have g0 := (f3.trans fb4).keep g0 (fun x => by cases x)
 have h4 := H.out.fr f4
 obtain ⟨p0, p1, p2, _⟩ := cells3 h3.blk
 have hT4 := lt_of_heap q3
 clear h3 fb4
 have HT := Lib.hid ht
 cases hok : st.ok with
 | false =>
  rw [hok] at p2
  have HOK := Lib.hid hok
  clear hok
  go_wp2_with fail
  clear p0 p1 p2
  generalize x3.alloc (.cells #[.int .i64 t.k, .int .i64 t.at', .string ⟨t.text.toArray⟩, .int .i64 t.n] 46) = x4 at *
  generalize x3.heap.size = T3 at *
  refine (IHP.out P g c st x4 h4 (by have := HN.out; omega)).mono ?_
  rintro e x6 ⟨k2, a2, nm2, n2, s2, ls2, args2, A52, n52, c52, A62, n62, c62, st2, rfl, hx2, hr2, hst2, f6⟩
  have g0 := f6.keep g0 (by simpa using nB)
  have hx2 := hx2.keep (ok' := fun b => B < b) (Sh.of_fr (Fr.refl [] x6) (fun b hb hlt => ⟨by have : x4.heap.size ≤ b := hb; omega, fun x => by cases x⟩))
  have hBT := lt_of_heap g0
  have HG := Lib.hid (st7_heap g0 (.int .i64 k2) (.int .i64 a2) (.string ⟨nm2.toArray⟩) (.int .i64 n2) (.string ⟨s2.toArray⟩) (.slice A52 n52 c52) (.slice A62 n62 c62))
  have HF := Lib.hid (((f4.mono (L' := [P]) (fun x hx => by cases hx)).trans f6).step (st7_fr x6 B (.int .i64 k2) (.int .i64 a2) (.string ⟨nm2.toArray⟩) (.int .i64 n2) (.string ⟨s2.toArray⟩) (.slice A52 n52 c52) (.slice A62 n62 c62)) (fun x hx => .inr (by simp at hx; omega)))
  have HP := Lib.hid ((hst2).frL (st7_fr x6 B (.int .i64 k2) (.int .i64 a2) (.string ⟨nm2.toArray⟩) (.int .i64 n2) (.string ⟨s2.toArray⟩) (.slice A52 n52 c52) (.slice A62 n62 c62)) (by simpa using nP) (by simpa using ng))
  have HX : Hid (PatAt (st7 x6 B (.int .i64 k2) (.int .i64 a2) (.string ⟨nm2.toArray⟩) (.int .i64 n2) (.string ⟨s2.toArray⟩) (.slice A52 n52 c52) (.slice A62 n62 c62)) (fun b => B ≤ b) (.mk k2 a2 nm2 n2 s2 ls2 args2) [.int .i64 k2, .int .i64 a2, .string ⟨nm2.toArray⟩, .int .i64 n2, .string ⟨s2.toArray⟩, .slice A52 n52 c52, .slice A62 n62 c62]) := Lib.hid ((hx2).keep (Sh.of_fr (st7_fr x6 B (.int .i64 k2) (.int .i64 a2) (.string ⟨nm2.toArray⟩) (.int .i64 n2) (.string ⟨s2.toArray⟩) (.slice A52 n52 c52) (.slice A62 n62 c62)) (fun b hb hlt => ⟨by omega, by simp; omega⟩)))
  unfold st7 at HG HF HP HX
  obtain ⟨⟨u0, u1, u2, u3, u4, u5, u6⟩, z0, z1, z2, z3, z4, z5, z6⟩ := cells7 g0
  go_wp2_with fail
  generalize ((((((x6.setCell ⟨B, 0, none⟩ (.int .i64 k2)).setCell ⟨B, 1, none⟩ (.int .i64 a2)).setCell ⟨B, 2, none⟩ (.string ⟨nm2.toArray⟩)).setCell ⟨B, 3, none⟩ (.int .i64 n2)).setCell ⟨B, 4, none⟩ (.string ⟨s2.toArray⟩)).setCell ⟨B, 5, none⟩ (.slice A52 n52 c52)).setCell ⟨B, 6, none⟩ (.slice A62 n62 c62) = Z at HG HF HP HX ⊢
  obtain ⟨⟨d0, d1, d2, d3, d4, d5, d6⟩, _⟩ := cells7 HG.out
  refine bodyPost_ret (v := .agg #[.int .i64 k2, .int .i64 a2, .string ⟨nm2.toArray⟩, .int .i64 n2, .string ⟨s2.toArray⟩, .slice A52 n52 c52, .slice A62 n62 c62]) ?_ rfl ?_
  ·simp [results, Tryz.f84, go_sem, d0, d1, d2, d3, d4, d5, d6]
  ·exact ⟨_, _, _, _, _, _, _, _, _, _, _, _, _, _, rfl, by rw [hB]; exact HX.out, .look HT.out (by rw [HOK.out]; exact .callP hr2 .retP), HP.out, HF.out⟩
 | true =>
  rw [hok] at p2
  have HOK := Lib.hid hok
  cases hk : (t.k == 3) with
  | false =>
   have HK := Lib.hid hk
   clear hok
   go_wp2_with fail
   clear p0 p1 p2 hk
   generalize x3.alloc (.cells #[.int .i64 t.k, .int .i64 t.at', .string ⟨t.text.toArray⟩, .int .i64 t.n] 46) = x4 at *
   generalize x3.heap.size = T3 at *
   refine (IHP.out P g c st x4 h4 (by have := HN.out; omega)).mono ?_
   rintro e x6 ⟨k2, a2, nm2, n2, s2, ls2, args2, A52, n52, c52, A62, n62, c62, st2, rfl, hx2, hr2, hst2, f6⟩
   have g0 := f6.keep g0 (by simpa using nB)
   have hx2 := hx2.keep (ok' := fun b => B < b) (Sh.of_fr (Fr.refl [] x6) (fun b hb hlt => ⟨by have : x4.heap.size ≤ b := hb; omega, fun x => by cases x⟩))
   have hBT := lt_of_heap g0
   have HG := Lib.hid (st7_heap g0 (.int .i64 k2) (.int .i64 a2) (.string ⟨nm2.toArray⟩) (.int .i64 n2) (.string ⟨s2.toArray⟩) (.slice A52 n52 c52) (.slice A62 n62 c62))
   have HF := Lib.hid (((f4.mono (L' := [P]) (fun x hx => by cases hx)).trans f6).step (st7_fr x6 B (.int .i64 k2) (.int .i64 a2) (.string ⟨nm2.toArray⟩) (.int .i64 n2) (.string ⟨s2.toArray⟩) (.slice A52 n52 c52) (.slice A62 n62 c62)) (fun x hx => .inr (by simp at hx; omega)))
   have HP := Lib.hid ((hst2).frL (st7_fr x6 B (.int .i64 k2) (.int .i64 a2) (.string ⟨nm2.toArray⟩) (.int .i64 n2) (.string ⟨s2.toArray⟩) (.slice A52 n52 c52) (.slice A62 n62 c62)) (by simpa using nP) (by simpa using ng))
   have HX : Hid (PatAt (st7 x6 B (.int .i64 k2) (.int .i64 a2) (.string ⟨nm2.toArray⟩) (.int .i64 n2) (.string ⟨s2.toArray⟩) (.slice A52 n52 c52) (.slice A62 n62 c62)) (fun b => B ≤ b) (.mk k2 a2 nm2 n2 s2 ls2 args2) [.int .i64 k2, .int .i64 a2, .string ⟨nm2.toArray⟩, .int .i64 n2, .string ⟨s2.toArray⟩, .slice A52 n52 c52, .slice A62 n62 c62]) := Lib.hid ((hx2).keep (Sh.of_fr (st7_fr x6 B (.int .i64 k2) (.int .i64 a2) (.string ⟨nm2.toArray⟩) (.int .i64 n2) (.string ⟨s2.toArray⟩) (.slice A52 n52 c52) (.slice A62 n62 c62)) (fun b hb hlt => ⟨by omega, by simp; omega⟩)))
   unfold st7 at HG HF HP HX
   obtain ⟨⟨u0, u1, u2, u3, u4, u5, u6⟩, z0, z1, z2, z3, z4, z5, z6⟩ := cells7 g0
   go_wp2_with fail
   generalize ((((((x6.setCell ⟨B, 0, none⟩ (.int .i64 k2)).setCell ⟨B, 1, none⟩ (.int .i64 a2)).setCell ⟨B, 2, none⟩ (.string ⟨nm2.toArray⟩)).setCell ⟨B, 3, none⟩ (.int .i64 n2)).setCell ⟨B, 4, none⟩ (.string ⟨s2.toArray⟩)).setCell ⟨B, 5, none⟩ (.slice A52 n52 c52)).setCell ⟨B, 6, none⟩ (.slice A62 n62 c62) = Z at HG HF HP HX ⊢
   obtain ⟨⟨d0, d1, d2, d3, d4, d5, d6⟩, _⟩ := cells7 HG.out
   refine bodyPost_ret (v := .agg #[.int .i64 k2, .int .i64 a2, .string ⟨nm2.toArray⟩, .int .i64 n2, .string ⟨s2.toArray⟩, .slice A52 n52 c52, .slice A62 n62 c62]) ?_ rfl ?_
   ·simp [results, Tryz.f84, go_sem, d0, d1, d2, d3, d4, d5, d6]
   ·exact ⟨_, _, _, _, _, _, _, _, _, _, _, _, _, _, rfl, by rw [hB]; exact HX.out, .look HT.out (by rw [HOK.out, HK.out]; exact .callP hr2 .retP), HP.out, HF.out⟩
  | true =>
   have HK := Lib.hid hk
   have hk0 : t.k ≠ 0 := by have := beq_iff_eq.1 hk; omega
   have cx := fun w h => Lib.hid (next_any P g c ts st t ht hok hk0 w h HE.out)
   clear hok hk0
   go_wp2_with fail
   clear p0 p1 p2 hk
   generalize x3.alloc (.cells #[.int .i64 t.k, .int .i64 t.at', .string ⟨t.text.toArray⟩, .int .i64 t.n] 46) = x4 at *
   generalize x3.heap.size = T3 at *
   refine (cx x4 h4).out.mono ?_
   rintro e x5 ⟨rfl, h5, f5⟩
   have g0 := f5.keep g0 (by simpa using nB)
   have q3 := f5.keep q3 (by simp; omega)
   have hs5 := f5.size
   have F5 : Fr [P] w x5 := (f4.mono (fun x hx => by cases hx)).trans f5
   have cS := fun W hW => Lib.hid (IHP.out P g c ⟨st.i + 1, st.ok⟩ W hW (by have := HN.out; have := h5.inb; simp only at this ⊢; omega))
   obtain ⟨m0, m1, m2, m3, _⟩ := cells4 q3
   have n3B : ¬ T3 = B := by omega
   have nB3 : ¬ B = T3 := by omega
   clear cx ht
   go_wp2_with fail
   go_region_held3 (fun w' => w'.cell? ⟨T3, 1, none⟩ = some (.int .i64 t.at') ∧ w'.cell? ⟨T3, 2, none⟩ = some (.string ⟨t.text.toArray⟩)) (first | go_keep | exact ⟨M6.2.1, M6.2.2.1⟩) (((with_reducible refine (cS _ (h5.fr (Fr.refl [] x5).drew)).out.mono ?_); rintro e x6 ⟨k2, a2, nm2, n2, s2, ls2, args2, A52, n52, c52, A62, n62, c62, st2, rfl, hx2, hr2, hst2, f6⟩; have Q6 := f6.keep (w := x5.drew) q3 (by simp; omega); have hT6 := lt_of_heap Q6; have M6 := cells4 Q6; have G6 := f6.keep (w := x5.drew) g0 (by simpa using nB); have hB6 := lt_of_heap G6; obtain ⟨⟨u0, u1, u2, u3, u4, u5, u6⟩, z0, z1, z2, z3, z4, z5, z6⟩ := cells7 G6))
   clear m0 m1 m2 m3 M6
   have f6 : Fr [P] x5 x6 := ((Fr.refl [P] x5).drew).trans f6
   clear u0 u1 u2 u3 u4 u5 u6 z0 z1 z2 z3 z4 z5 z6
   have hx2 := hx2.keep (ok' := fun b => B < b) (Sh.of_fr (Fr.refl [] x6) (fun b hb hlt => ⟨by have : x5.heap.size ≤ b := hb; omega, fun x => by cases x⟩))
   have HG := Lib.hid (st7_heap G6 (.int .i64 8) (.int .i64 t.at') (.string ⟨t.text.toArray⟩) (.int .i64 0) (.string ⟨#[]⟩) (.slice none 0 0) (.slice (some ⟨x6.heap.size, 0, none⟩) 1 1))
   have HF := Lib.hid ((F5.trans f6).step (st7_fr x6 B (.int .i64 8) (.int .i64 t.at') (.string ⟨t.text.toArray⟩) (.int .i64 0) (.string ⟨#[]⟩) (.slice none 0 0) (.slice (some ⟨x6.heap.size, 0, none⟩) 1 1)) (fun x hx => .inr (by simp at hx; omega)))
   have HP := Lib.hid ((hst2).frL (st7_fr x6 B (.int .i64 8) (.int .i64 t.at') (.string ⟨t.text.toArray⟩) (.int .i64 0) (.string ⟨#[]⟩) (.slice none 0 0) (.slice (some ⟨x6.heap.size, 0, none⟩) 1 1)) (by simpa using nP) (by simpa using ng))
   have HS := Lib.hid (st7_size x6 B (.int .i64 8) (.int .i64 t.at') (.string ⟨t.text.toArray⟩) (.int .i64 0) (.string ⟨#[]⟩) (.slice none 0 0) (.slice (some ⟨x6.heap.size, 0, none⟩) 1 1))
   have HX : Hid (PatAt (st7 x6 B (.int .i64 8) (.int .i64 t.at') (.string ⟨t.text.toArray⟩) (.int .i64 0) (.string ⟨#[]⟩) (.slice none 0 0) (.slice (some ⟨x6.heap.size, 0, none⟩) 1 1)) (fun b => B ≤ b) (.mk k2 a2 nm2 n2 s2 ls2 args2) [.int .i64 k2, .int .i64 a2, .string ⟨nm2.toArray⟩, .int .i64 n2, .string ⟨s2.toArray⟩, .slice A52 n52 c52, .slice A62 n62 c62]) := Lib.hid ((hx2).keep (Sh.of_fr (st7_fr x6 B (.int .i64 8) (.int .i64 t.at') (.string ⟨t.text.toArray⟩) (.int .i64 0) (.string ⟨#[]⟩) (.slice none 0 0) (.slice (some ⟨x6.heap.size, 0, none⟩) 1 1)) (fun b hb hlt => ⟨by omega, by simp; omega⟩)))
   unfold st7 at HG HF HP HS HX
   generalize ((((((x6.setCell ⟨B, 0, none⟩ (.int .i64 8)).setCell ⟨B, 1, none⟩ (.int .i64 t.at')).setCell ⟨B, 2, none⟩ (.string ⟨t.text.toArray⟩)).setCell ⟨B, 3, none⟩ (.int .i64 0)).setCell ⟨B, 4, none⟩ (.string ⟨#[]⟩)).setCell ⟨B, 5, none⟩ (.slice none 0 0)).setCell ⟨B, 6, none⟩ (.slice (some ⟨x6.heap.size, 0, none⟩) 1 1) = Z at HG HF HP HS HX ⊢
   obtain ⟨⟨d0, d1, d2, d3, d4, d5, d6⟩, _⟩ := cells7 (heap_old HG.out (.cells #[.int .i64 k2, .int .i64 a2, .string ⟨nm2.toArray⟩, .int .i64 n2, .string ⟨s2.toArray⟩, .slice A52 n52 c52, .slice A62 n62 c62] 62))
   have hBZ : B ≤ Z.heap.size := by have := lt_of_heap HG.out; omega
   have row := RowG.lit keepsP (T := 62) (size := 7) HX.out rfl (ok := fun b => B ≤ b) hBZ
   rw [HS.out] at row
   have hxx := PatAt.of_rows (k := 8) (a := t.at') (nm := t.text) (n := 0) (s := []) (c5 := fun _ => []) RowG.nil_ row
   go_wp2_with fail
   refine bodyPost_ret (v := .agg #[.int .i64 8, .int .i64 t.at', .string ⟨t.text.toArray⟩, .int .i64 0, .string ⟨#[]⟩, .slice none 0 0, .slice (some ⟨x6.heap.size, 0, none⟩) 1 1]) ?_ rfl ?_
   ·simp [results, Tryz.f84, go_sem, d0, d1, d2, d3, d4, d5, d6]
   ·exact ⟨_, _, _, _, _, _, _, _, _, _, _, _, _, _, rfl, by rw [hB]; exact hxx, .look HT.out (by rw [HOK.out, HK.out]; exact .adv (.callP hr2 .retP)), HP.out.fr ((Fr.refl [] Z).alloc _), HF.out.alloc _⟩
end Go.Proofs.YtpjkfeehgookkaaGreatDoor
namespace Go.Proofs.YtpjkfeehgookkaaGreatDoor
open Go.RowKit
theorem step_append_fp {P : Program} {w : World} {ops : Array Oper} {o : Oper} {a : Act} {K : Act → World → Prop} {Q : Exit → Act → World → Prop} {E : Prop} (hgd : o.guard = none) (s x : Operand) (t : TypeId)
  (ho : o.op = .call { callee := .builtin .append, args := #[s, x], argTypes := #[t, t] })
  (e : TypeId) (i : TypeInfo) (z : Value) (size bytes : Nat) (ht : P.underlying t = some (.slice e)) (hi : P.info? e = some i) (hz : i.zero = some z)
  (hsize : i.size = size) (hby : i.bytes = bytes) (hzs : z.cells.size = size) (hsz : 0 < size)
  (v : Value) (n : Nat) (xs : List Value) (hs : a.eval s = v) (hown : w.ownsRow 0 e size v n xs)
  (ad : Addr) (m c : Nat) (news : List Value) (hx : a.eval x = .slice (some ad) m c) (hl : news.length = m * size) (hnews : ∀ j u, news[j]? = some u → w.cell? (ad.add j) = some u) (h1 : ∀ u ∈ news, u.oneCell' = true)
  (h63 : n + m ≤ maxLen) (hbytes : (n + m) * bytes ≤ 140737488355328)
  (h : ∀ v' w', w'.ownsRow 0 e size v' (n + m) (xs ++ news) → w.grownBy w' v.ownBlock → FpOf v v' w.heap.size → K (a.put o.dst v') w') :
  if Region.wanted o (yielded ops a.tmps) = true then Oper.wp P o a w K Q else E := by
 have hw : Region.wanted o (yielded ops a.tmps) = true := by simp [Region.wanted, hgd]
 rw [if_pos hw]
 obtain ⟨v', w', hr, h2, h3, h4⟩ := run_append_fp (P := P) w t o.type e i z size bytes ht hi hz hsize hby hzs hsz v n xs hown ad m c news hl hnews h1 h63 hbytes
 unfold Oper.wp execOp
 simp only [ho, resolve, invoke, builtin, Sem.run_bind, Sem.run_pure, Result.andThen_ok, List.map_toArray, List.map_cons, List.map_nil, hs, hx, hr]
 exact h v' w' h2 h3 h4
theorem own_form {w : World} {b : Nat} {T : TypeId} {size : Nat} {v : Value} {n : Nat} {xs : List Value} (h : w.ownsRow b T size v (n + 1) xs) : ∃ g cap, v = .slice (some ⟨g, 0, none⟩) (n + 1) cap := by
 rcases h.2 with ⟨_, hn⟩ | ⟨g, cap, cur, hv, _⟩
 ·omega
 ·exact ⟨g, cap, hv⟩
theorem RowG.own_lt {α : Type} {E : World → (Nat → Prop) → α → List Value → Prop} {T : TypeId} {size : Nat} {w : World} {ok : Nat → Prop} {v : Value} {xs : List α} {cs : Nat → List Value} (h : RowG E T size w ok v xs cs) (g : Nat) (hg : v.ownBlock = some g) : g < w.heap.size := by
 rcases h.own.2 with ⟨hv, _⟩ | ⟨g', cap, cur, hv, _, h2, _⟩
 ·rw [hv] at hg; simp [Value.ownBlock] at hg
 ·rw [hv] at hg; simp [Value.ownBlock] at hg; subst hg; exact (Array.getElem?_eq_some_iff.1 h2).1
end Go.Proofs.YtpjkfeehgookkaaGreatDoor
namespace Go.Proofs.YtpjkfeehgookkaaGreatDoor
open Go.RowKit
attribute [local go_sem ↓] Go.wp_at_zero Go.wp_at_succ
theorem infoExpr : (Tryz.prog.info? 27).map (fun i => (i.zero, i.size, i.bytes)) = some (some (.agg #[.int .i64 0, .int .i64 0, .string ⟨#[]⟩, .int .i64 0, .string ⟨#[]⟩, .slice none 0 0, .slice none 0 0, .slice none 0 0]), 8, 128) := by kernel_rfl
set_option maxHeartbeats 4000000 in
set_option maxRecDepth 100000 in
theorem app_tag (ts : List Tok) (hE : EndOk ts) (N : Nat) (ih : AllE ts N) (P g c : Nat) (st : St) (w : World) (h : PSt P g c ts st w) (hm : 16 * (ts.length - st.i) + 5 < N + 1) (t : Tok) (ht : ts[st.i]? = some t) (hok : st.ok = true) (hk : (t.k == 3) = true) : Calls Tryz.prog 152 #[.pointer (some ⟨P, 0, none⟩)] w (ExOk P g c ts st (body .app) w) := by
 have HOK := Lib.hid hok
 have HK := Lib.hid hk
 clear hok hk
 have H := Lib.hid h
 have hP := lt_of_heap h.blk
 have hgl := h.lt
 have hin := h.inb
 have HN := Lib.hid hm
 have HE := Lib.hid hE
 have IH := Lib.hid ih
 clear h hm hE ih
 go_enter Tryz.func152, Tryz.ntmps152
 go_wp2_with fail
 have f0 : Fr [] w (w.alloc (.cells #[.int .i64 0, .int .i64 0, .string ⟨#[]⟩, .int .i64 0, .string ⟨#[]⟩, .slice none 0 0, .slice none 0 0, .slice none 0 0] 27)) := (Fr.refl [] w).alloc _
 have g0 := heap_new w (.cells #[.int .i64 0, .int .i64 0, .string ⟨#[]⟩, .int .i64 0, .string ⟨#[]⟩, .slice none 0 0, .slice none 0 0, .slice none 0 0] 27)
 generalize w.alloc (.cells #[.int .i64 0, .int .i64 0, .string ⟨#[]⟩, .int .i64 0, .string ⟨#[]⟩, .slice none 0 0, .slice none 0 0, .slice none 0 0] 27) = w1 at *
 generalize hB : w.heap.size = B at *
 have hB1 := lt_of_heap g0
 have nP : ¬ P = B := by omega
 have nB : ¬ B = P := by omega
 have ng : ¬ g = B := by omega
 refine (now_any P g c ts st t ht w1 (H.out.fr f0) HE.out).mono ?_
 rintro e x3 ⟨rfl, f3⟩
 have hTB := lt_of_heap (f3.keep g0 (fun x => by cases x))
 have h3 := H.out.fr (f0.trans f3)
 have hP3 := lt_of_heap h3.blk
 have q3 := heap_new x3 (.cells #[.int .i64 t.k, .int .i64 t.at', .string ⟨t.text.toArray⟩, .int .i64 t.n] 46)
 have fb4 : Fr [] x3 (x3.alloc (.cells #[.int .i64 t.k, .int .i64 t.at', .string ⟨t.text.toArray⟩, .int .i64 t.n] 46)) := (Fr.refl [] x3).alloc _
 have f4 := (f0.trans f3).trans fb4
 have g0 := (f3.trans fb4).keep g0 (fun x => by cases x)
 have h4 := H.out.fr f4
 obtain ⟨p0, p1, p2, _⟩ := cells3 h3.blk
 have hT4 := lt_of_heap q3
 clear h3 fb4
 have HT := Lib.hid ht
 ·have hok := HOK.out
  have hk := HK.out
  rw [hok] at p2
  have hk0 : t.k ≠ 0 := by have := beq_iff_eq.1 hk; omega
  have cx := fun w h => Lib.hid (next_any P g c ts st t ht hok hk0 w h HE.out)
  clear hok hk0
  go_wp2_with fail
  clear p0 p1 p2 hk
  generalize x3.alloc (.cells #[.int .i64 t.k, .int .i64 t.at', .string ⟨t.text.toArray⟩, .int .i64 t.n] 46) = x4 at *
  generalize x3.heap.size = T3 at *
  refine (cx x4 h4).out.mono ?_
  rintro e x5 ⟨rfl, h5, f5⟩
  have g0 := f5.keep g0 (by simpa using nB)
  have q3 := f5.keep q3 (by simp; omega)
  have hs5 := f5.size
  have F5 : Fr [P] w x5 := (f4.mono (fun x hx => by cases hx)).trans f5
  have cS := fun W hW => Lib.hid (IH.out.post P g c ⟨st.i + 1, st.ok⟩ W hW (by have := HN.out; have := h5.inb; simp only at this ⊢; omega))
  obtain ⟨m0, m1, m2, m3, _⟩ := cells4 q3
  have n3B : ¬ T3 = B := by omega
  have nB3 : ¬ B = T3 := by omega
  clear cx ht
  go_wp2_with fail
  go_region_held3 (fun w' => w'.cell? ⟨T3, 1, none⟩ = some (.int .i64 t.at') ∧ w'.cell? ⟨T3, 2, none⟩ = some (.string ⟨t.text.toArray⟩)) (first | go_keep | exact ⟨M6.2.1, M6.2.2.1⟩) (((with_reducible refine (cS _ (h5.fr (Fr.refl [] x5).drew)).out.mono ?_); rintro e x6 ⟨k2, a2, nm2, n2, s2, ls2, args2, arms2, A52, n52, c52, A62, n62, c62, A72, n72, c72, st2, rfl, hx2, hr2, hst2, f6⟩; have Q6 := f6.keep (w := x5.drew) q3 (by simp; omega); have hT6 := lt_of_heap Q6; have M6 := cells4 Q6; have G6 := f6.keep (w := x5.drew) g0 (by simpa using nB); have hB6 := lt_of_heap G6; obtain ⟨⟨u0, u1, u2, u3, u4, u5, u6, u7⟩, z0, z1, z2, z3, z4, z5, z6, z7⟩ := cells8 G6))
  clear m0 m1 m2 m3 M6 u0 u1 u2 u3 u4 u5 u6 u7 z0 z1 z2 z3 z4 z5 z6 z7
  have f6 : Fr [P] x5 x6 := ((Fr.refl [P] x5).drew).trans f6
  have hx2 := hx2.keep (ok' := fun b => B < b) (Sh.of_fr (Fr.refl [] x6) (fun b hb hlt => ⟨by have : x5.heap.size ≤ b := hb; omega, fun x => by cases x⟩))
  have HG := Lib.hid (st8_heap G6 (.int .i64 15) (.int .i64 t.at') (.string ⟨t.text.toArray⟩) (.int .i64 0) (.string ⟨#[]⟩) (.slice none 0 0) (.slice (some ⟨x6.heap.size, 0, none⟩) 1 1) (.slice none 0 0))
  have HF := Lib.hid ((F5.trans f6).step (st8_fr x6 B (.int .i64 15) (.int .i64 t.at') (.string ⟨t.text.toArray⟩) (.int .i64 0) (.string ⟨#[]⟩) (.slice none 0 0) (.slice (some ⟨x6.heap.size, 0, none⟩) 1 1) (.slice none 0 0)) (fun x hx => .inr (by simp at hx; omega)))
  have HP := Lib.hid ((hst2).frL (st8_fr x6 B (.int .i64 15) (.int .i64 t.at') (.string ⟨t.text.toArray⟩) (.int .i64 0) (.string ⟨#[]⟩) (.slice none 0 0) (.slice (some ⟨x6.heap.size, 0, none⟩) 1 1) (.slice none 0 0)) (by simpa using nP) (by simpa using ng))
  have HS := Lib.hid (st8_size x6 B (.int .i64 15) (.int .i64 t.at') (.string ⟨t.text.toArray⟩) (.int .i64 0) (.string ⟨#[]⟩) (.slice none 0 0) (.slice (some ⟨x6.heap.size, 0, none⟩) 1 1) (.slice none 0 0))
  have HX2 : Hid (ExprAt (st8 x6 B (.int .i64 15) (.int .i64 t.at') (.string ⟨t.text.toArray⟩) (.int .i64 0) (.string ⟨#[]⟩) (.slice none 0 0) (.slice (some ⟨x6.heap.size, 0, none⟩) 1 1) (.slice none 0 0)) (fun b => B ≤ b) (.mk k2 a2 nm2 n2 s2 ls2 args2 arms2) [.int .i64 k2, .int .i64 a2, .string ⟨nm2.toArray⟩, .int .i64 n2, .string ⟨s2.toArray⟩, .slice A52 n52 c52, .slice A62 n62 c62, .slice A72 n72 c72]) := Lib.hid ((hx2).keep (Sh.of_fr (st8_fr x6 B (.int .i64 15) (.int .i64 t.at') (.string ⟨t.text.toArray⟩) (.int .i64 0) (.string ⟨#[]⟩) (.slice none 0 0) (.slice (some ⟨x6.heap.size, 0, none⟩) 1 1) (.slice none 0 0)) (fun b hb hlt => ⟨by omega, by simp; omega⟩)))
  unfold st8 at HG HF HP HS HX2
  go_wp2_with fail
  generalize (((((((x6.setCell ⟨B, 0, none⟩ (.int .i64 15)).setCell ⟨B, 1, none⟩ (.int .i64 t.at')).setCell ⟨B, 2, none⟩ (.string ⟨t.text.toArray⟩)).setCell ⟨B, 3, none⟩ (.int .i64 0)).setCell ⟨B, 4, none⟩ (.string ⟨#[]⟩)).setCell ⟨B, 5, none⟩ (.slice none 0 0)).setCell ⟨B, 6, none⟩ (.slice (some ⟨x6.heap.size, 0, none⟩) 1 1)).setCell ⟨B, 7, none⟩ (.slice none 0 0) = Z at HG HF HP HS HX2 ⊢
  obtain ⟨⟨d0, d1, d2, d3, d4, d5, d6, d7⟩, _⟩ := cells8 (heap_old HG.out (.cells #[.int .i64 k2, .int .i64 a2, .string ⟨nm2.toArray⟩, .int .i64 n2, .string ⟨s2.toArray⟩, .slice A52 n52 c52, .slice A62 n62 c62, .slice A72 n72 c72] 27))
  have hBZ : B ≤ Z.heap.size := by have := lt_of_heap HG.out; omega
  have row := RowG.lit keepsE (T := 27) (size := 8) HX2.out rfl (ok := fun b => B ≤ b) hBZ
  rw [HS.out] at row
  have hxx := ExprAt.of_rows (k := 15) (a := t.at') (nm := t.text) (n := 0) (s := []) (c5 := fun _ => []) (c7 := fun _ => []) RowG.nil_ row RowG.nil_
  refine bodyPost_ret (v := .agg #[.int .i64 15, .int .i64 t.at', .string ⟨t.text.toArray⟩, .int .i64 0, .string ⟨#[]⟩, .slice none 0 0, .slice (some ⟨x6.heap.size, 0, none⟩) 1 1, .slice none 0 0]) ?_ rfl ?_
  ·simp [results, Tryz.f152, go_sem, d0, d1, d2, d3, d4, d5, d6, d7]
  ·exact ⟨_, _, _, _, _, _, _, _, _, _, _, _, _, _, _, _, _, _, rfl, by rw [hB]; exact hxx, .look HT.out (by rw [HOK.out, HK.out]; exact .adv (.callE hr2 .retE)), HP.out.fr ((Fr.refl [] Z).alloc _), HF.out.alloc _⟩
end Go.Proofs.YtpjkfeehgookkaaGreatDoor
