/- A part of the proof: It5, It, Ar, Br1, Br2, Br3, Br4, Br5, Br, Mk1, Mk2. -/
import Derived.Deep.DrawnRows
import Derived.Test.YtpjkfeehgookkaaGreatDoorCb4
namespace Go.Proofs.YtpjkfeehgookkaaGreatDoor
open Go.RowKit
attribute [local go_sem ↓] Go.wp_at_zero Go.wp_at_succ
set_option maxHeartbeats 8000000 in
set_option maxRecDepth 100000 in
theorem item_raise (ts : List Tok) (hE : EndOk ts) (N : Nat) (ih : AllE ts N) (P g c : Nat) (st : St) (w : World) (h : PSt P g c ts st w) (hm : 16 * (ts.length - st.i) + 12 < N + 1) (t : Tok) (ht : ts[st.i]? = some t) (hb0 : isB t st.ok [[108, 101, 116]] = false) (hb1 : isB t st.ok [[102, 117, 110]] = false) (hb2 : isB t st.ok [[109, 97, 116, 99, 104]] = false) (hb3 : isB t st.ok [[116, 114, 121]] = false) (hb4 : isB t st.ok [[105, 102]] = false) (hb5 : isB t st.ok [[114, 97, 105, 115, 101]] = true) : Calls Tryz.prog 33 #[.pointer (some ⟨P, 0, none⟩)] w (ExOk P g c ts st (body .item) w) := by
 have HB0 := Lib.hid hb0
 clear hb0
 have HB1 := Lib.hid hb1
 clear hb1
 have HB2 := Lib.hid hb2
 clear hb2
 have HB3 := Lib.hid hb3
 clear hb3
 have HB4 := Lib.hid hb4
 clear hb4
 have HB5 := Lib.hid hb5
 clear hb5
 have H := Lib.hid h
 have hP := lt_of_heap h.blk
 have hgl := h.lt
 have hin := h.inb
 have HN := Lib.hid hm
 have HE := Lib.hid hE
 have IH := Lib.hid ih
 clear h hm hE ih
 go_enter Tryz.func33, Tryz.ntmps33
 go_wp2_with fail
 have f0 : Fr [] w (w.alloc (.cells #[.int .i64 0, .int .i64 0, .string ⟨#[]⟩, .int .i64 0, .string ⟨#[]⟩, .slice none 0 0, .slice none 0 0, .slice none 0 0] 27)) := (Fr.refl [] w).alloc _
 have g0 := heap_new w (.cells #[.int .i64 0, .int .i64 0, .string ⟨#[]⟩, .int .i64 0, .string ⟨#[]⟩, .slice none 0 0, .slice none 0 0, .slice none 0 0] 27)
 generalize w.alloc (.cells #[.int .i64 0, .int .i64 0, .string ⟨#[]⟩, .int .i64 0, .string ⟨#[]⟩, .slice none 0 0, .slice none 0 0, .slice none 0 0] 27) = w1 at *
 generalize hB : w.heap.size = B at *
 have hB1 := lt_of_heap g0
 have nP : ¬ P = B := by omega
 have nB : ¬ B = P := by omega
 have ng : ¬ g = B := by omega
 have HT := Lib.hid ht
 refine (now_any P g c ts st t ht w1 (H.out.fr f0) HE.out).mono ?_
 rintro e x3 ⟨rfl, f3⟩
 go_wp2_with fail
 have q3 := heap_new x3 (.cells #[.int .i64 t.k, .int .i64 t.at', .string ⟨t.text.toArray⟩, .int .i64 t.n] 46)
 have fb4 : Fr [] x3 (x3.alloc (.cells #[.int .i64 t.k, .int .i64 t.at', .string ⟨t.text.toArray⟩, .int .i64 t.n] 46)) := (Fr.refl [] x3).alloc _
 generalize x3.alloc (.cells #[.int .i64 t.k, .int .i64 t.at', .string ⟨t.text.toArray⟩, .int .i64 t.n] 46) = x4 at *
 have hT4 := lt_of_heap q3
 have hs3 := f3.size
 generalize x3.heap.size = T3 at *
 have f4 := (f0.trans f3).trans fb4
 have g0 := (f3.trans fb4).keep g0 (fun x => by cases x)
 have h4 := H.out.fr f4
 have hPB : P < B := by omega
 have hgB : g < B := by omega
 have hBw : w.heap.size ≤ B := by omega
 have hBT3 : B < T3 := by have := (f0.trans f3).size; have := lt_of_heap g0; omega
 clear f0 f3 fb4
 refine (may_no [108, 101, 116] P g c ts st t HT.out HB0.out x4 h4 HE.out).mono ?_
 rintro e x4 ⟨rfl, f5⟩
 go_wp2_with fail
 have g0 := f5.keep g0 (fun x => by cases x)
 have q3 := f5.keep q3 (fun x => by cases x)
 have h4 := h4.fr f5
 have f4 := f4.trans f5
 have hs4 := f5.size
 clear f5 hs4
 have fa := (Fr.refl [] x4).alloc (.cells #[.string ⟨[102, 117, 110].toArray⟩] 9)
 have ci := fun cl => Lib.hid (is_any P g c ts st t HT.out x4.heap.size cl [[102, 117, 110]] (by simp) (x4.alloc (.cells #[.string ⟨[102, 117, 110].toArray⟩] 9)) (h4.fr fa) (StrsR.one x4 [102, 117, 110] _) (by simp) HE.out)
 rw [HB1.out] at ci
 go_wp2_with fail
 refine (ci _).out.mono ?_
 rintro e x4 ⟨rfl, f5⟩
 go_wp2_with fail
 have f5 := fa.trans f5
 have g0 := f5.keep g0 (fun x => by cases x)
 have q3 := f5.keep q3 (fun x => by cases x)
 have h4 := h4.fr f5
 have f4 := f4.trans f5
 clear f5 fa ci
 refine (may_no [109, 97, 116, 99, 104] P g c ts st t HT.out HB2.out x4 h4 HE.out).mono ?_
 rintro e x4 ⟨rfl, f5⟩
 go_wp2_with fail
 have g0 := f5.keep g0 (fun x => by cases x)
 have q3 := f5.keep q3 (fun x => by cases x)
 have h4 := h4.fr f5
 have f4 := f4.trans f5
 have hs4 := f5.size
 clear f5 hs4
 refine (may_no [116, 114, 121] P g c ts st t HT.out HB3.out x4 h4 HE.out).mono ?_
 rintro e x4 ⟨rfl, f5⟩
 go_wp2_with fail
 have g0 := f5.keep g0 (fun x => by cases x)
 have q3 := f5.keep q3 (fun x => by cases x)
 have h4 := h4.fr f5
 have f4 := f4.trans f5
 have hs4 := f5.size
 clear f5 hs4
 refine (may_no [105, 102] P g c ts st t HT.out HB4.out x4 h4 HE.out).mono ?_
 rintro e x4 ⟨rfl, f5⟩
 go_wp2_with fail
 have g0 := f5.keep g0 (fun x => by cases x)
 have q3 := f5.keep q3 (fun x => by cases x)
 have h4 := h4.fr f5
 have f4 := f4.trans f5
 have hs4 := f5.size
 clear f5 hs4
 refine (may_yes [114, 97, 105, 115, 101] P g c ts st t HT.out HB5.out x4 h4 HE.out).mono ?_
 rintro e x5 ⟨rfl, h0, f5⟩
 have g0 := f5.keep g0 (by simpa using nB)
 have q3 := f5.keep q3 (by simp; omega)
 have F : Fr [P] w x5 := (f4.mono (fun x hx => by cases hx)).trans f5
 have hs5 := lt_of_heap g0
 clear f4 f5 h4 hT4 hs3
 have cS := fun W hW => Lib.hid (IH.out.post P g c ⟨st.i + 1, st.ok⟩ W hW (by have := HN.out; have := h0.inb; simp only at this ⊢; omega))
 obtain ⟨m0, m1, m2, m3, _⟩ := cells4 q3
 have n3B : ¬ T3 = B := by omega
 have nB3 : ¬ B = T3 := by omega
 go_wp2_with fail
 go_region_held3 (fun w' => w'.cell? ⟨T3, 1, none⟩ = some (.int .i64 t.at')) (first | go_keep | exact M6.2.1) (((with_reducible refine (cS _ (h0.fr (Fr.refl [] x5).drew)).out.mono ?_); rintro e x6 ⟨k2, a2, nm2, n2, s2, ls2, args2, arms2, A52, n52, c52, A62, n62, c62, A72, n72, c72, st2, rfl, hx2, hr2, hst2, f6⟩; have Q6 := f6.keep (w := x5.drew) q3 (by simp; omega); have hT6 := lt_of_heap Q6; have M6 := cells4 Q6; have G6 := f6.keep (w := x5.drew) g0 (by simpa using nB); have hB6 := lt_of_heap G6; obtain ⟨⟨u0, u1, u2, u3, u4, u5, u6, u7⟩, z0, z1, z2, z3, z4, z5, z6, z7⟩ := cells8 G6))
 clear m0 m1 m2 m3 M6 u0 u1 u2 u3 u4 u5 u6 u7 z0 z1 z2 z3 z4 z5 z6 z7
 have f6 : Fr [P] x5 x6 := ((Fr.refl [P] x5).drew).trans f6
 have hx2 := hx2.keep (ok' := fun b => B < b) (Sh.of_fr (Fr.refl [] x6) (fun b hb hlt => ⟨by have : x5.heap.size ≤ b := hb; omega, fun x => by cases x⟩))
 have HG := Lib.hid (st8_heap G6 (.int .i64 18) (.int .i64 t.at') (.string ⟨#[]⟩) (.int .i64 0) (.string ⟨#[]⟩) (.slice none 0 0) (.slice (some ⟨x6.heap.size, 0, none⟩) 1 1) (.slice none 0 0))
 have HF := Lib.hid ((F.trans f6).step (st8_fr x6 B (.int .i64 18) (.int .i64 t.at') (.string ⟨#[]⟩) (.int .i64 0) (.string ⟨#[]⟩) (.slice none 0 0) (.slice (some ⟨x6.heap.size, 0, none⟩) 1 1) (.slice none 0 0)) (fun x hx => .inr (by simp at hx; omega)))
 have HP := Lib.hid ((hst2).frL (st8_fr x6 B (.int .i64 18) (.int .i64 t.at') (.string ⟨#[]⟩) (.int .i64 0) (.string ⟨#[]⟩) (.slice none 0 0) (.slice (some ⟨x6.heap.size, 0, none⟩) 1 1) (.slice none 0 0)) (by simpa using nP) (by simpa using ng))
 have HS := Lib.hid (st8_size x6 B (.int .i64 18) (.int .i64 t.at') (.string ⟨#[]⟩) (.int .i64 0) (.string ⟨#[]⟩) (.slice none 0 0) (.slice (some ⟨x6.heap.size, 0, none⟩) 1 1) (.slice none 0 0))
 have HX2 : Hid (ExprAt (st8 x6 B (.int .i64 18) (.int .i64 t.at') (.string ⟨#[]⟩) (.int .i64 0) (.string ⟨#[]⟩) (.slice none 0 0) (.slice (some ⟨x6.heap.size, 0, none⟩) 1 1) (.slice none 0 0)) (fun b => B ≤ b) (.mk k2 a2 nm2 n2 s2 ls2 args2 arms2) [.int .i64 k2, .int .i64 a2, .string ⟨nm2.toArray⟩, .int .i64 n2, .string ⟨s2.toArray⟩, .slice A52 n52 c52, .slice A62 n62 c62, .slice A72 n72 c72]) := Lib.hid ((hx2).keep (Sh.of_fr (st8_fr x6 B (.int .i64 18) (.int .i64 t.at') (.string ⟨#[]⟩) (.int .i64 0) (.string ⟨#[]⟩) (.slice none 0 0) (.slice (some ⟨x6.heap.size, 0, none⟩) 1 1) (.slice none 0 0)) (fun b hb hlt => ⟨by omega, by simp; omega⟩)))
 unfold st8 at HG HF HP HS HX2
 go_wp2_with fail
 generalize (((((((x6.setCell ⟨B, 0, none⟩ (.int .i64 18)).setCell ⟨B, 1, none⟩ (.int .i64 t.at')).setCell ⟨B, 2, none⟩ (.string ⟨#[]⟩)).setCell ⟨B, 3, none⟩ (.int .i64 0)).setCell ⟨B, 4, none⟩ (.string ⟨#[]⟩)).setCell ⟨B, 5, none⟩ (.slice none 0 0)).setCell ⟨B, 6, none⟩ (.slice (some ⟨x6.heap.size, 0, none⟩) 1 1)).setCell ⟨B, 7, none⟩ (.slice none 0 0) = Z at HG HF HP HS HX2 ⊢
 obtain ⟨⟨d0, d1, d2, d3, d4, d5, d6, d7⟩, _⟩ := cells8 (heap_old HG.out (.cells #[.int .i64 k2, .int .i64 a2, .string ⟨nm2.toArray⟩, .int .i64 n2, .string ⟨s2.toArray⟩, .slice A52 n52 c52, .slice A62 n62 c62, .slice A72 n72 c72] 27))
 have hBZ : B ≤ Z.heap.size := by have := lt_of_heap HG.out; omega
 have row := RowG.lit keepsE (T := 27) (size := 8) HX2.out rfl (ok := fun b => B ≤ b) hBZ
 rw [HS.out] at row
 have hxx := ExprAt.of_rows (k := 18) (a := t.at') (nm := []) (n := 0) (s := []) (c5 := fun _ => []) (c7 := fun _ => []) RowG.nil_ row RowG.nil_
 refine bodyPost_ret (v := .agg #[.int .i64 18, .int .i64 t.at', .string ⟨#[]⟩, .int .i64 0, .string ⟨#[]⟩, .slice none 0 0, .slice (some ⟨x6.heap.size, 0, none⟩) 1 1, .slice none 0 0]) ?_ rfl ?_
 ·simp [results, Tryz.f33, go_sem, d0, d1, d2, d3, d4, d5, d6, d7]
 ·exact ⟨_, _, _, _, _, _, _, _, _, _, _, _, _, _, _, _, _, _, rfl, by rw [hB]; exact hxx, .look HT.out (.may_no HT.out HB0.out (.els (.isC_ HT.out HB1.out (.els (.may_no HT.out HB2.out (.els (.may_no HT.out HB3.out (.els (.may_no HT.out HB4.out (.els (.may_yes HT.out HB5.out (.thn (.callE hr2 .retE))))))))))))), HP.out.fr ((Fr.refl [] Z).alloc _), HF.out.alloc _⟩
set_option maxHeartbeats 8000000 in
set_option maxRecDepth 100000 in
theorem item_or (ts : List Tok) (hE : EndOk ts) (N : Nat) (ih : AllE ts N) (P g c : Nat) (st : St) (w : World) (h : PSt P g c ts st w) (hm : 16 * (ts.length - st.i) + 12 < N + 1) (t : Tok) (ht : ts[st.i]? = some t) (hb0 : isB t st.ok [[108, 101, 116]] = false) (hb1 : isB t st.ok [[102, 117, 110]] = false) (hb2 : isB t st.ok [[109, 97, 116, 99, 104]] = false) (hb3 : isB t st.ok [[116, 114, 121]] = false) (hb4 : isB t st.ok [[105, 102]] = false) (hb5 : isB t st.ok [[114, 97, 105, 115, 101]] = false)  : Calls Tryz.prog 33 #[.pointer (some ⟨P, 0, none⟩)] w (ExOk P g c ts st (body .item) w) := by
 have HB0 := Lib.hid hb0
 clear hb0
 have HB1 := Lib.hid hb1
 clear hb1
 have HB2 := Lib.hid hb2
 clear hb2
 have HB3 := Lib.hid hb3
 clear hb3
 have HB4 := Lib.hid hb4
 clear hb4
 have HB5 := Lib.hid hb5
 clear hb5
 have H := Lib.hid h
 have hP := lt_of_heap h.blk
 have hgl := h.lt
 have hin := h.inb
 have HN := Lib.hid hm
 have HE := Lib.hid hE
 have IH := Lib.hid ih
 clear h hm hE ih
 go_enter Tryz.func33, Tryz.ntmps33
 go_wp2_with fail
 have f0 : Fr [] w (w.alloc (.cells #[.int .i64 0, .int .i64 0, .string ⟨#[]⟩, .int .i64 0, .string ⟨#[]⟩, .slice none 0 0, .slice none 0 0, .slice none 0 0] 27)) := (Fr.refl [] w).alloc _
 have g0 := heap_new w (.cells #[.int .i64 0, .int .i64 0, .string ⟨#[]⟩, .int .i64 0, .string ⟨#[]⟩, .slice none 0 0, .slice none 0 0, .slice none 0 0] 27)
 generalize w.alloc (.cells #[.int .i64 0, .int .i64 0, .string ⟨#[]⟩, .int .i64 0, .string ⟨#[]⟩, .slice none 0 0, .slice none 0 0, .slice none 0 0] 27) = w1 at *
 generalize hB : w.heap.size = B at *
 have hB1 := lt_of_heap g0
 have nP : ¬ P = B := by omega
 have nB : ¬ B = P := by omega
 have ng : ¬ g = B := by omega
 have HT := Lib.hid ht
 refine (now_any P g c ts st t ht w1 (H.out.fr f0) HE.out).mono ?_
 rintro e x3 ⟨rfl, f3⟩
 go_wp2_with fail
 have q3 := heap_new x3 (.cells #[.int .i64 t.k, .int .i64 t.at', .string ⟨t.text.toArray⟩, .int .i64 t.n] 46)
 have fb4 : Fr [] x3 (x3.alloc (.cells #[.int .i64 t.k, .int .i64 t.at', .string ⟨t.text.toArray⟩, .int .i64 t.n] 46)) := (Fr.refl [] x3).alloc _
 generalize x3.alloc (.cells #[.int .i64 t.k, .int .i64 t.at', .string ⟨t.text.toArray⟩, .int .i64 t.n] 46) = x4 at *
 have hT4 := lt_of_heap q3
 have hs3 := f3.size
 generalize x3.heap.size = T3 at *
 have f4 := (f0.trans f3).trans fb4
 have g0 := (f3.trans fb4).keep g0 (fun x => by cases x)
 have h4 := H.out.fr f4
 have hPB : P < B := by omega
 have hgB : g < B := by omega
 have hBw : w.heap.size ≤ B := by omega
 have hBT3 : B < T3 := by have := (f0.trans f3).size; have := lt_of_heap g0; omega
 clear f0 f3 fb4
 refine (may_no [108, 101, 116] P g c ts st t HT.out HB0.out x4 h4 HE.out).mono ?_
 rintro e x4 ⟨rfl, f5⟩
 go_wp2_with fail
 have g0 := f5.keep g0 (fun x => by cases x)
 have q3 := f5.keep q3 (fun x => by cases x)
 have h4 := h4.fr f5
 have f4 := f4.trans f5
 have hs4 := f5.size
 clear f5 hs4
 have fa := (Fr.refl [] x4).alloc (.cells #[.string ⟨[102, 117, 110].toArray⟩] 9)
 have ci := fun cl => Lib.hid (is_any P g c ts st t HT.out x4.heap.size cl [[102, 117, 110]] (by simp) (x4.alloc (.cells #[.string ⟨[102, 117, 110].toArray⟩] 9)) (h4.fr fa) (StrsR.one x4 [102, 117, 110] _) (by simp) HE.out)
 rw [HB1.out] at ci
 go_wp2_with fail
 refine (ci _).out.mono ?_
 rintro e x4 ⟨rfl, f5⟩
 go_wp2_with fail
 have f5 := fa.trans f5
 have g0 := f5.keep g0 (fun x => by cases x)
 have q3 := f5.keep q3 (fun x => by cases x)
 have h4 := h4.fr f5
 have f4 := f4.trans f5
 clear f5 fa ci
 refine (may_no [109, 97, 116, 99, 104] P g c ts st t HT.out HB2.out x4 h4 HE.out).mono ?_
 rintro e x4 ⟨rfl, f5⟩
 go_wp2_with fail
 have g0 := f5.keep g0 (fun x => by cases x)
 have q3 := f5.keep q3 (fun x => by cases x)
 have h4 := h4.fr f5
 have f4 := f4.trans f5
 have hs4 := f5.size
 clear f5 hs4
 refine (may_no [116, 114, 121] P g c ts st t HT.out HB3.out x4 h4 HE.out).mono ?_
 rintro e x4 ⟨rfl, f5⟩
 go_wp2_with fail
 have g0 := f5.keep g0 (fun x => by cases x)
 have q3 := f5.keep q3 (fun x => by cases x)
 have h4 := h4.fr f5
 have f4 := f4.trans f5
 have hs4 := f5.size
 clear f5 hs4
 refine (may_no [105, 102] P g c ts st t HT.out HB4.out x4 h4 HE.out).mono ?_
 rintro e x4 ⟨rfl, f5⟩
 go_wp2_with fail
 have g0 := f5.keep g0 (fun x => by cases x)
 have q3 := f5.keep q3 (fun x => by cases x)
 have h4 := h4.fr f5
 have f4 := f4.trans f5
 have hs4 := f5.size
 clear f5 hs4
 refine (may_no [114, 97, 105, 115, 101] P g c ts st t HT.out HB5.out x4 h4 HE.out).mono ?_
 rintro e x4 ⟨rfl, f5⟩
 go_wp2_with fail
 have g0 := f5.keep g0 (fun x => by cases x)
 have q3 := f5.keep q3 (fun x => by cases x)
 have h4 := h4.fr f5
 have f4 := f4.trans f5
 have hs4 := f5.size
 clear f5 hs4
 refine (IH.out.or P g c st x4 h4 (by have := HN.out; omega)).mono ?_
 rintro e x1 ⟨k1, a1, nm1, n1, s1, ls1, args1, arms1, A51, n51, c51, A61, n61, c61, A71, n71, c71, st1, rfl, hx1, hr1, hst1, f1⟩
 have hBx4 := lt_of_heap g0
 have g0 := f1.keep g0 (by simpa using nB)
 have hs1 := f1.size
 have F1 : Fr [P] w x1 := (f4.mono (fun x hx => by cases hx)).trans f1
 clear q3 f4 h4 hT4 hs3
 go_wp2_with fail
 have q1 := heap_new x1 (.cells #[.int .i64 k1, .int .i64 a1, .string ⟨nm1.toArray⟩, .int .i64 n1, .string ⟨s1.toArray⟩, .slice A51 n51 c51, .slice A61 n61 c61, .slice A71 n71 c71] 27)
 have fb1 : Fr [] x1 (x1.alloc (.cells #[.int .i64 k1, .int .i64 a1, .string ⟨nm1.toArray⟩, .int .i64 n1, .string ⟨s1.toArray⟩, .slice A51 n51 c51, .slice A61 n61 c61, .slice A71 n71 c71] 27)) := (Fr.refl [] x1).alloc _
 generalize hY1 : x1.alloc (.cells #[.int .i64 k1, .int .i64 a1, .string ⟨nm1.toArray⟩, .int .i64 n1, .string ⟨s1.toArray⟩, .slice A51 n51 c51, .slice A61 n61 c61, .slice A71 n71 c71] 27) = x2 at *
 have hT1 := lt_of_heap q1
 generalize hTT1 : x1.heap.size = T7 at *
 have g0 := fb1.keep g0 (fun x => by cases x)
 have h2 := hst1.fr fb1
 have F2 := F1.trans0 fb1
 have hx1 := hx1.keep (ok' := fun b => B < b ∧ ¬ b = T7) (Sh.of_fr fb1 (fun b hb hlt => ⟨⟨by omega, by omega⟩, fun x => by cases x⟩))
 obtain ⟨v, hv⟩ := tok_at hst1.inb
 refine (now_any P g c ts st1 v hv x2 h2 HE.out).mono ?_
 rintro e x3 ⟨rfl, f3⟩
 go_wp2_with fail
 have q4 := heap_new x3 (.cells #[.int .i64 v.k, .int .i64 v.at', .string ⟨v.text.toArray⟩, .int .i64 v.n] 46)
 have fb4 : Fr [] x3 (x3.alloc (.cells #[.int .i64 v.k, .int .i64 v.at', .string ⟨v.text.toArray⟩, .int .i64 v.n] 46)) := (Fr.refl [] x3).alloc _
 generalize hY4 : x3.alloc (.cells #[.int .i64 v.k, .int .i64 v.at', .string ⟨v.text.toArray⟩, .int .i64 v.n] 46) = x4 at *
 have hT4 := lt_of_heap q4
 generalize hTT4 : x3.heap.size = T8 at *
 have f4 := f3.trans fb4
 have g0 := f4.keep g0 (fun x => by cases x)
 have q1 := f4.keep q1 (fun x => by cases x)
 have h4 := h2.fr f4
 have F4 := F2.trans0 f4
 have hs3 := f3.size
 have hx1 := hx1.keep (ok' := fun b => B < b ∧ ¬ b = T7 ∧ ¬ b = T8) (Sh.of_fr f4 (fun b hb hlt => ⟨⟨hb.1, hb.2, by omega⟩, fun x => by cases x⟩))
 have hle := hr1.le
 cases hb : isB v st1.ok [[58, 61]] with
 | false =>
  refine (may_no [58, 61] P g c ts st1 v hv hb x4 h4 HE.out).mono ?_
  rintro e x5 ⟨rfl, f5⟩
  have g0 := f5.keep g0 (fun x => by cases x)
  obtain ⟨⟨l0, l1, l2, l3, l4, l5, l6, l7⟩, _⟩ := cells8 (f5.keep q1 (fun x => by cases x))
  have h5 := h4.fr f5
  have hx1 := hx1.keep (ok' := fun b => B < b) (Sh.of_fr f5 (fun b hb hlt => ⟨hb.1, fun x => by cases x⟩))
  have HG := Lib.hid (st8_heap g0 (.int .i64 k1) (.int .i64 a1) (.string ⟨nm1.toArray⟩) (.int .i64 n1) (.string ⟨s1.toArray⟩) (.slice A51 n51 c51) (.slice A61 n61 c61) (.slice A71 n71 c71))
  have HF := Lib.hid ((F4.trans0 f5).step (st8_fr x5 B (.int .i64 k1) (.int .i64 a1) (.string ⟨nm1.toArray⟩) (.int .i64 n1) (.string ⟨s1.toArray⟩) (.slice A51 n51 c51) (.slice A61 n61 c61) (.slice A71 n71 c71)) (fun x hx => .inr (by simp at hx; omega)))
  have HP := Lib.hid ((h5).frL (st8_fr x5 B (.int .i64 k1) (.int .i64 a1) (.string ⟨nm1.toArray⟩) (.int .i64 n1) (.string ⟨s1.toArray⟩) (.slice A51 n51 c51) (.slice A61 n61 c61) (.slice A71 n71 c71)) (by simpa using nP) (by simpa using ng))
  have HX : Hid (ExprAt (st8 x5 B (.int .i64 k1) (.int .i64 a1) (.string ⟨nm1.toArray⟩) (.int .i64 n1) (.string ⟨s1.toArray⟩) (.slice A51 n51 c51) (.slice A61 n61 c61) (.slice A71 n71 c71)) (fun b => B ≤ b) (.mk k1 a1 nm1 n1 s1 ls1 args1 arms1) [.int .i64 k1, .int .i64 a1, .string ⟨nm1.toArray⟩, .int .i64 n1, .string ⟨s1.toArray⟩, .slice A51 n51 c51, .slice A61 n61 c61, .slice A71 n71 c71]) := Lib.hid ((hx1).keep (Sh.of_fr (st8_fr x5 B (.int .i64 k1) (.int .i64 a1) (.string ⟨nm1.toArray⟩) (.int .i64 n1) (.string ⟨s1.toArray⟩) (.slice A51 n51 c51) (.slice A61 n61 c61) (.slice A71 n71 c71)) (fun b hb hlt => ⟨by omega, by simp; omega⟩)))
  unfold st8 at HG HF HP HX
  obtain ⟨⟨u0, u1, u2, u3, u4, u5, u6, u7⟩, z0, z1, z2, z3, z4, z5, z6, z7⟩ := cells8 g0
  go_wp2_with fail
  generalize (((((((x5.setCell ⟨B, 0, none⟩ (.int .i64 k1)).setCell ⟨B, 1, none⟩ (.int .i64 a1)).setCell ⟨B, 2, none⟩ (.string ⟨nm1.toArray⟩)).setCell ⟨B, 3, none⟩ (.int .i64 n1)).setCell ⟨B, 4, none⟩ (.string ⟨s1.toArray⟩)).setCell ⟨B, 5, none⟩ (.slice A51 n51 c51)).setCell ⟨B, 6, none⟩ (.slice A61 n61 c61)).setCell ⟨B, 7, none⟩ (.slice A71 n71 c71) = Z at HG HF HP HX ⊢
  obtain ⟨⟨d0, d1, d2, d3, d4, d5, d6, d7⟩, _⟩ := cells8 HG.out
  refine bodyPost_ret (v := .agg #[.int .i64 k1, .int .i64 a1, .string ⟨nm1.toArray⟩, .int .i64 n1, .string ⟨s1.toArray⟩, .slice A51 n51 c51, .slice A61 n61 c61, .slice A71 n71 c71]) ?_ rfl ?_
  ·simp [results, Tryz.f33, go_sem, d0, d1, d2, d3, d4, d5, d6, d7]
  ·exact ⟨_, _, _, _, _, _, _, _, _, _, _, _, _, _, _, _, _, _, rfl, by rw [hB]; exact HX.out, .look HT.out (.may_no HT.out HB0.out (.els (.isC_ HT.out HB1.out (.els (.may_no HT.out HB2.out (.els (.may_no HT.out HB3.out (.els (.may_no HT.out HB4.out (.els (.may_no HT.out HB5.out (.els (.callE hr1 (.look hv (.may_no hv hb (.els .retE)))))))))))))))), HP.out, HF.out⟩
 | true =>
  refine (may_yes [58, 61] P g c ts st1 v hv hb x4 h4 HE.out).mono ?_
  rintro e x5 ⟨rfl, h5, f5⟩
  have g0 := f5.keep g0 (by simpa using nB)
  have q1 := f5.keep q1 (by simp; omega)
  have q4 := f5.keep q4 (by simp; omega)
  have hs5 := f5.size
  have F5 := F4.trans f5
  have hx1 := hx1.keep (ok' := fun b => B < b ∧ ¬ b = T7 ∧ ¬ b = T8 ∧ ¬ b = P ∧ b < x5.heap.size) (Sh.of_fr f5 (fun b hb hlt => ⟨⟨hb.1, hb.2.1, hb.2.2, by omega, by omega⟩, by simp; omega⟩))
  obtain ⟨⟨l0, l1, l2, l3, l4, l5, l6, l7⟩, _⟩ := cells8 q1
  obtain ⟨m0, m1, m2, m3, _⟩ := cells4 q4
  have cE := fun W hW => Lib.hid (IH.out.item P g c ⟨st1.i + 1, st1.ok⟩ W hW (by have := HN.out; have := h5.inb; simp only at this ⊢; omega))
  go_wp2_with fail
  have n34 : ¬ T7 = T8 := by omega
  have n3B : ¬ T7 = B := by omega
  have nB3 : ¬ B = T7 := by omega
  have n4B : ¬ T8 = B := by omega
  have nB4 : ¬ B = T8 := by omega
  clear fb1 fb4 f1 f3 f4 h2 h4 F1 F2 F4 hst1 H hY1 hY4
  go_region_held3 (fun w' => (w'.cell? ⟨T8, 0, none⟩ = some (.int .i64 v.k) ∧ w'.cell? ⟨T8, 1, none⟩ = some (.int .i64 v.at') ∧ w'.cell? ⟨T8, 2, none⟩ = some (.string ⟨v.text.toArray⟩) ∧ w'.cell? ⟨T8, 3, none⟩ = some (.int .i64 v.n)) ∧ (w'.cell? ⟨T7, 0, none⟩ = some (.int .i64 k1) ∧ w'.cell? ⟨T7, 1, none⟩ = some (.int .i64 a1) ∧ w'.cell? ⟨T7, 2, none⟩ = some (.string ⟨nm1.toArray⟩) ∧ w'.cell? ⟨T7, 3, none⟩ = some (.int .i64 n1) ∧ w'.cell? ⟨T7, 4, none⟩ = some (.string ⟨s1.toArray⟩) ∧ w'.cell? ⟨T7, 5, none⟩ = some (.slice A51 n51 c51) ∧ w'.cell? ⟨T7, 6, none⟩ = some (.slice A61 n61 c61) ∧ w'.cell? ⟨T7, 7, none⟩ = some (.slice A71 n71 c71))) (go_keep) ((first | ((with_reducible refine (cE _ (h5.fr (Fr.refl [] x5).drew)).out.mono ?_); rintro e x6 ⟨k2, a2, nm2, n2, s2, ls2, args2, arms2, A52, n52, c52, A62, n62, c62, A72, n72, c72, st2, rfl, hx2, hr2, hst2, f6⟩; have Q1 := f6.keep (w := x5.drew) q1 (by simp; omega); have Q4 := f6.keep (w := x5.drew) q4 (by simp; omega); have G6 := f6.keep (w := x5.drew) g0 (by simpa using nB); have hT36 := lt_of_heap Q1; have hT46 := lt_of_heap Q4; have hB6 := lt_of_heap G6; have M3 := (cells8 Q1).1; have M4 := cells4 Q4) | ((with_reducible refine (op_any _ v _ _ _ _).mono ?_); rintro e x7 ⟨rfl, f7⟩; have R1 := f7.keep (heap_old Q1 (.cells #[.int .i64 k1, .int .i64 a1, .string ⟨nm1.toArray⟩, .int .i64 n1, .string ⟨s1.toArray⟩, .slice A51 n51 c51, .slice A61 n61 c61, .slice A71 n71 c71, .int .i64 k2, .int .i64 a2, .string ⟨nm2.toArray⟩, .int .i64 n2, .string ⟨s2.toArray⟩, .slice A52 n52 c52, .slice A62 n62 c62, .slice A72 n72 c72] 27)) (fun x => by cases x); have R4 := f7.keep (heap_old Q4 (.cells #[.int .i64 k1, .int .i64 a1, .string ⟨nm1.toArray⟩, .int .i64 n1, .string ⟨s1.toArray⟩, .slice A51 n51 c51, .slice A61 n61 c61, .slice A71 n71 c71, .int .i64 k2, .int .i64 a2, .string ⟨nm2.toArray⟩, .int .i64 n2, .string ⟨s2.toArray⟩, .slice A52 n52 c52, .slice A62 n62 c62, .slice A72 n72 c72] 27)) (fun x => by cases x); have G7 := f7.keep (heap_old G6 (.cells #[.int .i64 k1, .int .i64 a1, .string ⟨nm1.toArray⟩, .int .i64 n1, .string ⟨s1.toArray⟩, .slice A51 n51 c51, .slice A61 n61 c61, .slice A71 n71 c71, .int .i64 k2, .int .i64 a2, .string ⟨nm2.toArray⟩, .int .i64 n2, .string ⟨s2.toArray⟩, .slice A52 n52 c52, .slice A62 n62 c62, .slice A72 n72 c72] 27)) (fun x => by cases x); have hT37 := lt_of_heap R1; have hT47 := lt_of_heap R4; have hB7 := lt_of_heap G7; have M5 := (cells8 R1).1; have M6 := cells4 R4; obtain ⟨⟨u0, u1, u2, u3, u4, u5, u6, u7⟩, z0, z1, z2, z3, z4, z5, z6, z7⟩ := cells8 G7)))
  all_goals
   clear M3 M4 M5 M6 u0 u1 u2 u3 u4 u5 u6 u7 z0 z1 z2 z3 z4 z5 z6 z7 l0 l1 l2 l3 l4 l5 l6 l7 m0 m1 m2 m3
   have f6 : Fr [P] x5 x6 := ((Fr.refl [P] x5).drew).trans f6
   have f7 : Fr [] (x6.alloc (.cells #[.int .i64 k1, .int .i64 a1, .string ⟨nm1.toArray⟩, .int .i64 n1, .string ⟨s1.toArray⟩, .slice A51 n51 c51, .slice A61 n61 c61, .slice A71 n71 c71, .int .i64 k2, .int .i64 a2, .string ⟨nm2.toArray⟩, .int .i64 n2, .string ⟨s2.toArray⟩, .slice A52 n52 c52, .slice A62 n62 c62, .slice A72 n72 c72] 27)) x7 := f7
   have hs6 := f6.size
   have hx1 := hx1.keep (ok' := fun b => B < b ∧ ¬ b = P) (Sh.of_fr f6 (fun b hb hlt => ⟨⟨hb.1, hb.2.2.2.1⟩, by simp; exact hb.2.2.2.1⟩))
   have hx2 := hx2.keep (ok' := fun b => B < b ∧ ¬ b = P) (Sh.of_fr (Fr.refl [] x6) (fun b hb hlt => ⟨by have : x5.heap.size ≤ b := hb; exact ⟨by omega, by omega⟩, fun x => by cases x⟩))
   have row6 := RowG.lit2 keepsE (T := 27) (size := 8) (ok := fun b => B < b ∧ ¬ b = P) hx1 hx2 rfl rfl (by exact ⟨by omega, by omega⟩)
   have row7 := RowG.keep (ok' := fun b => B < b) keepsE row6 (Sh.of_fr f7 (fun b hb hlt => ⟨hb.1, fun x => by cases x⟩))
   have HG := Lib.hid (st8_heap G7 (.int .i64 19) (.int .i64 v.at') (.string ⟨#[]⟩) (.int .i64 12) (.string ⟨#[]⟩) (.slice none 0 0) (.slice (some ⟨x6.heap.size, 0, none⟩) 2 2) (.slice none 0 0))
   have HF := Lib.hid ((F5.trans (f6.trans0 (((Fr.refl [] x6).alloc _).trans f7))).step (st8_fr x7 B (.int .i64 19) (.int .i64 v.at') (.string ⟨#[]⟩) (.int .i64 12) (.string ⟨#[]⟩) (.slice none 0 0) (.slice (some ⟨x6.heap.size, 0, none⟩) 2 2) (.slice none 0 0)) (fun x hx => .inr (by simp at hx; omega)))
   have HP := Lib.hid (((hst2.fr (((Fr.refl [] x6).alloc _).trans f7))).frL (st8_fr x7 B (.int .i64 19) (.int .i64 v.at') (.string ⟨#[]⟩) (.int .i64 12) (.string ⟨#[]⟩) (.slice none 0 0) (.slice (some ⟨x6.heap.size, 0, none⟩) 2 2) (.slice none 0 0)) (by simpa using nP) (by simpa using ng))
   have HR := Lib.hid (RowG.keep (ok' := fun b => B ≤ b) keepsE row7 (Sh.of_fr (st8_fr x7 B (.int .i64 19) (.int .i64 v.at') (.string ⟨#[]⟩) (.int .i64 12) (.string ⟨#[]⟩) (.slice none 0 0) (.slice (some ⟨x6.heap.size, 0, none⟩) 2 2) (.slice none 0 0)) (fun b hb hlt => ⟨by omega, by simp; omega⟩)))
   unfold st8 at HG HF HP HR
   go_wp2_with fail
   generalize (((((((x7.setCell ⟨B, 0, none⟩ (.int .i64 19)).setCell ⟨B, 1, none⟩ (.int .i64 v.at')).setCell ⟨B, 2, none⟩ (.string ⟨#[]⟩)).setCell ⟨B, 3, none⟩ (.int .i64 12)).setCell ⟨B, 4, none⟩ (.string ⟨#[]⟩)).setCell ⟨B, 5, none⟩ (.slice none 0 0)).setCell ⟨B, 6, none⟩ (.slice (some ⟨x6.heap.size, 0, none⟩) 2 2)).setCell ⟨B, 7, none⟩ (.slice none 0 0) = Z at HG HF HP HR ⊢
   obtain ⟨⟨d0, d1, d2, d3, d4, d5, d6, d7⟩, _⟩ := cells8 HG.out
   have hxx := ExprAt.of_rows (k := 19) (a := v.at') (nm := []) (n := 12) (s := []) (c5 := fun _ => []) (c7 := fun _ => []) RowG.nil_ HR.out RowG.nil_
   refine bodyPost_ret (v := .agg #[.int .i64 19, .int .i64 v.at', .string ⟨#[]⟩, .int .i64 12, .string ⟨#[]⟩, .slice none 0 0, .slice (some ⟨x6.heap.size, 0, none⟩) 2 2, .slice none 0 0]) ?_ rfl ?_
   ·simp [results, Tryz.f33, go_sem, d0, d1, d2, d3, d4, d5, d6, d7]
   ·exact ⟨_, _, _, _, _, _, _, _, _, _, _, _, _, _, _, _, _, _, rfl, by rw [hB]; exact hxx, .look HT.out (.may_no HT.out HB0.out (.els (.isC_ HT.out HB1.out (.els (.may_no HT.out HB2.out (.els (.may_no HT.out HB3.out (.els (.may_no HT.out HB4.out (.els (.may_no HT.out HB5.out (.els (.callE hr1 (.look hv (.may_yes hv hb (.thn (.callE hr2 .retE))))))))))))))))), HP.out, HF.out⟩
end Go.Proofs.YtpjkfeehgookkaaGreatDoor
namespace Go.Proofs.YtpjkfeehgookkaaGreatDoor
open Go.RowKit
theorem item_step (ts : List Tok) (hE : EndOk ts) (N : Nat) (ih : AllE ts N) (ihF : GF ts N) (ihA : GA ts N) : GE ts (N + 1) 12 .item 33 := by
 intro P g c st w h hm
 obtain ⟨t, ht⟩ := tok_at h.inb
 cases h0 : isB t st.ok [[108, 101, 116]] with
 | true =>
  cases hq : ts[st.i + 1]? with
  | none => exact item_It1 ts hE N ih P g c st w h hm t ht h0 (fun u hu => by rw [hq] at hu; cases hu)
  | some u =>
   cases hr : isB u st.ok [[114, 101, 99]] with
   | false => exact item_It1 ts hE N ih P g c st w h hm t ht h0 (fun u' hu => by rw [hq] at hu; cases hu; exact hr)
   | true => exact item_It2 ts hE N ih P g c st w h hm t ht h0 (fun u' hu => by rw [hq] at hu; cases hu; exact hr)
 | false =>
  cases h1 : isB t st.ok [[102, 117, 110]] with
  | true => exact item_fun ts hE N ih P g c st w h hm t ht h0 h1 ihF
  | false =>
   cases h2 : isB t st.ok [[109, 97, 116, 99, 104]] with
   | true => exact item_match ts hE N ih P g c st w h hm t ht h0 h1 h2 ihA
   | false =>
    cases h3 : isB t st.ok [[116, 114, 121]] with
    | true => exact item_try ts hE N ih P g c st w h hm t ht h0 h1 h2 h3 ihA
    | false =>
     cases h4 : isB t st.ok [[105, 102]] with
     | true => exact item_if ts hE N ih P g c st w h hm t ht h0 h1 h2 h3 h4
     | false =>
      cases h5 : isB t st.ok [[114, 97, 105, 115, 101]] with
      | true => exact item_raise ts hE N ih P g c st w h hm t ht h0 h1 h2 h3 h4 h5
      | false => exact item_or ts hE N ih P g c st w h hm t ht h0 h1 h2 h3 h4 h5
end Go.Proofs.YtpjkfeehgookkaaGreatDoor
namespace Go.Proofs.YtpjkfeehgookkaaGreatDoor
open Go.RowKit
attribute [local go_sem ↓] Go.wp_at_zero Go.wp_at_succ
def st15 (x : World) (B : Nat) (a0 a1 a2 a3 a4 a5 a6 a7 : Value) : World := (((((((x.setCell ⟨B, 7, none⟩ a0).setCell ⟨B, 8, none⟩ a1).setCell ⟨B, 9, none⟩ a2).setCell ⟨B, 10, none⟩ a3).setCell ⟨B, 11, none⟩ a4).setCell ⟨B, 12, none⟩ a5).setCell ⟨B, 13, none⟩ a6).setCell ⟨B, 14, none⟩ a7
theorem st15_heap {x : World} {B : Nat} {T : TypeId} {p0 p1 p2 p3 p4 p5 p6 o0 o1 o2 o3 o4 o5 o6 o7 : Value} (h : x.heap[B]? = some (.cells #[p0, p1, p2, p3, p4, p5, p6, o0, o1, o2, o3, o4, o5, o6, o7] T (0, 0))) (a0 a1 a2 a3 a4 a5 a6 a7 : Value) : (st15 x B a0 a1 a2 a3 a4 a5 a6 a7).heap[B]? = some (.cells #[p0, p1, p2, p3, p4, p5, p6, a0, a1, a2, a3, a4, a5, a6, a7] T (0, 0)) := by
 simp [st15, World.setCell, Array.getElem?_modify, h]
theorem st15_fr (x : World) (B : Nat) (a0 a1 a2 a3 a4 a5 a6 a7 : Value) : Fr [B] x (st15 x B a0 a1 a2 a3 a4 a5 a6 a7) := by
 unfold st15
 exact ((((((((Fr.refl [B] x).setCell (p := ⟨B, 7, none⟩) (.inl (by simp)) a0).setCell (p := ⟨B, 8, none⟩) (.inl (by simp)) a1).setCell (p := ⟨B, 9, none⟩) (.inl (by simp)) a2).setCell (p := ⟨B, 10, none⟩) (.inl (by simp)) a3).setCell (p := ⟨B, 11, none⟩) (.inl (by simp)) a4).setCell (p := ⟨B, 12, none⟩) (.inl (by simp)) a5).setCell (p := ⟨B, 13, none⟩) (.inl (by simp)) a6).setCell (p := ⟨B, 14, none⟩) (.inl (by simp)) a7
theorem st15_size (x : World) (B : Nat) (a0 a1 a2 a3 a4 a5 a6 a7 : Value) : (st15 x B a0 a1 a2 a3 a4 a5 a6 a7).heap.size = x.heap.size := by simp [st15, World.setCell]
def LKa (k a : Int) (x : ExprT) (acc : List (PatT × ExprT)) : Cmd := .look fun _ ok => if ok = true then .callE (.armsL k a x acc) .retE else mustC [101, 110, 100] (.retE (.mk k a [] 0 [] [] [x] acc))
def ENDa (k a : Int) (x : ExprT) (acc : List (PatT × ExprT)) : Cmd := mustC [101, 110, 100] (.retE (.mk k a [] 0 [] [] [x] acc))
theorem LKa_no {ts : List Tok} {k a : Int} {x : ExprT} {acc : List (PatT × ExprT)} {st st' : St} {r : Rs} {t : Tok} (ht : ts[st.i]? = some t) (hok : st.ok = false) (h : Run ts (ENDa k a x acc) st r st') : Run ts (LKa k a x acc) st r st' :=
 .look ht (by rw [hok, if_neg (by decide)]; exact h)
theorem arms_round {ts : List Tok} {k a : Int} {x : ExprT} {acc : List (PatT × ExprT)} {st0 st1 st3 : St} {p : PatT} {y : ExprT} {u u1 v : Tok} (hu : ts[st0.i]? = some u) (hok : st0.ok = true) (hp : Run ts (bodyP .pat) st0 (.p p) st1) (hu1 : ts[st1.i]? = some u1)
  (hs : Run ts (body .seq) (mustS u1 st1 [45, 62]) (.e y) st3) (hv : ts[st3.i]? = some v) {b : Bool} (hb : isB v st3.ok [[124]] = b) {z : ExprT} {st' : St}
  (h : Run ts (if b = true then LKa k a x (acc ++ [(p, y)]) else ENDa k a x (acc ++ [(p, y)])) (if b = true then ⟨st3.i + 1, st3.ok⟩ else st3) (.e z) st') : Run ts (LKa k a x acc) st0 (.e z) st' := by
 refine .look hu ?_
 rw [hok, if_pos rfl]
 refine .callE (.callP hp (.must_ hu1 (.callE hs ?_))) .retE
 cases b with
 | true =>
  rw [if_pos rfl, if_pos rfl] at h
  refine .may_yes hv hb (.thn ?_)
  cases h with
  | look h1 hk =>
   have e : st3.ok = true := (isB_ok hb).1
   have hk : Run ts (if st3.ok = true then _ else _) _ _ _ := hk
   rw [e, if_pos rfl] at hk
   rw [e]
   exact hk
 | false =>
  rw [if_neg (by decide), if_neg (by decide)] at h
  exact .may_no hv hb (.els h)
theorem arms_begin {ts : List Tok} {k a : Int} {x : ExprT} {st st1 : St} {u : Tok} (hs : Run ts (body .seq) st (.e x) st1) (hu : ts[st1.i]? = some u) {z : ExprT} {st' : St} (h : Run ts (LKa k a x []) (mustS u st1 [119, 105, 116, 104]) (.e z) st') : Run ts (body (.arms k a)) st (.e z) st' :=
 .callE hs (.must_ hu h)
set_option maxHeartbeats 16000000 in
set_option maxRecDepth 100000 in
theorem arms_step (ts : List Tok) (hE : EndOk ts) (N : Nat) (ih : AllE ts N) (ihP : GP ts N 2 .pat 84) : GA ts (N + 1) := by
 intro P g c st k a w h hm
 have IH := Lib.hid ih
 have IHP := Lib.hid ihP
 clear ih ihP
 have H := Lib.hid h
 have hP := lt_of_heap h.blk
 have hgl := h.lt
 have hin := h.inb
 have HN := Lib.hid hm
 have HE := Lib.hid hE
 clear h hm hE
 go_enter Tryz.func55, Tryz.ntmps55
 go_wp2_with fail
 have f0 : Fr [] w ((w.alloc (.cells #[.int .i64 k, .int .i64 a, .string ⟨#[]⟩, .int .i64 0, .string ⟨#[]⟩, .slice none 0 0, .slice none 0 0, .slice none 0 0] 27)).alloc (.cells #[.int .i64 0, .int .i64 0, .string ⟨#[]⟩, .int .i64 0, .string ⟨#[]⟩, .slice none 0 0, .slice none 0 0, .slice none 0 0] 27)) := ((Fr.refl [] w).alloc _).alloc _
 have q0 := heap_old (heap_new w (.cells #[.int .i64 k, .int .i64 a, .string ⟨#[]⟩, .int .i64 0, .string ⟨#[]⟩, .slice none 0 0, .slice none 0 0, .slice none 0 0] 27)) (.cells #[.int .i64 0, .int .i64 0, .string ⟨#[]⟩, .int .i64 0, .string ⟨#[]⟩, .slice none 0 0, .slice none 0 0, .slice none 0 0] 27)
 have g0 := heap_new (w.alloc (.cells #[.int .i64 k, .int .i64 a, .string ⟨#[]⟩, .int .i64 0, .string ⟨#[]⟩, .slice none 0 0, .slice none 0 0, .slice none 0 0] 27)) (.cells #[.int .i64 0, .int .i64 0, .string ⟨#[]⟩, .int .i64 0, .string ⟨#[]⟩, .slice none 0 0, .slice none 0 0, .slice none 0 0] 27)
 have hsz : (w.alloc (.cells #[.int .i64 k, .int .i64 a, .string ⟨#[]⟩, .int .i64 0, .string ⟨#[]⟩, .slice none 0 0, .slice none 0 0, .slice none 0 0] 27)).heap.size = w.heap.size + 1 := by simp
 rw [hsz] at g0
 clear hsz
 have h0 := H.out.fr f0
 have F := f0.mono (L' := [P]) (fun x hx => by cases hx)
 generalize (w.alloc (.cells #[.int .i64 k, .int .i64 a, .string ⟨#[]⟩, .int .i64 0, .string ⟨#[]⟩, .slice none 0 0, .slice none 0 0, .slice none 0 0] 27)).alloc (.cells #[.int .i64 0, .int .i64 0, .string ⟨#[]⟩, .int .i64 0, .string ⟨#[]⟩, .slice none 0 0, .slice none 0 0, .slice none 0 0] 27) = w1 at *
 generalize hT : w.heap.size = T at *
 generalize hB : T + 1 = B at *
 have hPT : P < T := hP
 have hgT : g < T := hgl
 clear f0 hP hgl
 refine (IH.out.seq P g c st w1 h0 (by have := HN.out; omega)).mono ?_
 rintro e x1 ⟨k1, a1, nm1, n1, s1, ls1, args1, arms1, A51, n51, c51, A61, n61, c61, A71, n71, c71, st1, rfl, hx1, hr1, hst1, f1⟩
 have hw1 := lt_of_heap g0
 have hT1 := lt_of_heap q0
 have g0 := f1.keep g0 (by simp; omega)
 have q0 := f1.keep q0 (by simp; omega)
 have F := F.trans f1
 have hs1 := f1.size
 have hxs := lt_of_heap g0
 obtain ⟨⟨m0, m1, m2, m3, m4, m5, m6, m7⟩, j0, j1, j2, j3, j4, j5, j6, j7⟩ := cells8 q0
 have hTx := lt_of_heap q0
 have q1 : (x1.setCell ⟨T, 6, none⟩ (.slice (some ⟨x1.heap.size, 0, none⟩) 1 1)).heap[T]? = some (.cells #[.int .i64 k, .int .i64 a, .string ⟨#[]⟩, .int .i64 0, .string ⟨#[]⟩, .slice none 0 0, .slice (some ⟨x1.heap.size, 0, none⟩) 1 1, .slice none 0 0] 27 (0, 0)) := set_at q0 6 _
 have fs := (Fr.refl [T] x1).setCell (p := ⟨T, 6, none⟩) (.inl (by simp)) (.slice (some ⟨x1.heap.size, 0, none⟩) 1 1)
 have g1 := fs.keep g0 (by simp; omega)
 have h1 := hst1.frL fs (by simp; omega) (by simp; omega)
 have F1 := F.step fs (fun x hx => .inr (by simp at hx; omega))
 have hx1 := hx1.keep (ok' := fun b => B < b ∧ ¬ b = T ∧ ¬ b = P) (Sh.of_fr fs (fun b hb hlt => ⟨by have : w1.heap.size ≤ b := hb; exact ⟨by omega, by omega, by omega⟩, by have : w1.heap.size ≤ b := hb; simp; omega⟩))
 have hss : (x1.setCell ⟨T, 6, none⟩ (.slice (some ⟨x1.heap.size, 0, none⟩) 1 1)).heap.size = x1.heap.size := by simp [World.setCell]
 have row := RowG.lit keepsE (T := 27) (size := 8) (ok := fun b => B < b ∧ ¬ b = T ∧ ¬ b = P) hx1 rfl (by rw [hss]; exact ⟨by omega, by omega, by omega⟩)
 rw [hss] at row
 have HQ := Lib.hid (heap_old q1 (.cells #[.int .i64 k1, .int .i64 a1, .string ⟨nm1.toArray⟩, .int .i64 n1, .string ⟨s1.toArray⟩, .slice A51 n51 c51, .slice A61 n61 c61, .slice A71 n71 c71] 27))
 have HG1 := Lib.hid (heap_old g1 (.cells #[.int .i64 k1, .int .i64 a1, .string ⟨nm1.toArray⟩, .int .i64 n1, .string ⟨s1.toArray⟩, .slice A51 n51 c51, .slice A61 n61 c61, .slice A71 n71 c71] 27))
 have HH1 := Lib.hid (h1.fr ((Fr.refl [] (x1.setCell ⟨T, 6, none⟩ (.slice (some ⟨x1.heap.size, 0, none⟩) 1 1))).alloc (.cells #[.int .i64 k1, .int .i64 a1, .string ⟨nm1.toArray⟩, .int .i64 n1, .string ⟨s1.toArray⟩, .slice A51 n51 c51, .slice A61 n61 c61, .slice A71 n71 c71] 27)))
 have HF1 := Lib.hid (F1.alloc (.cells #[.int .i64 k1, .int .i64 a1, .string ⟨nm1.toArray⟩, .int .i64 n1, .string ⟨s1.toArray⟩, .slice A51 n51 c51, .slice A61 n61 c61, .slice A71 n71 c71] 27))
 have ROW1 := Lib.hid row
 clear q0 q1 g0 g1 h1 F1 F fs row hx1 hst1 hss h0 H
 go_wp2_with fail
 clear m0 m1 m2 m3 m4 m5 m6 m7 j0 j1 j2 j3 j4 j5 j6 j7
 generalize (x1.setCell ⟨T, 6, none⟩ (.slice (some ⟨x1.heap.size, 0, none⟩) 1 1)).alloc (.cells #[.int .i64 k1, .int .i64 a1, .string ⟨nm1.toArray⟩, .int .i64 n1, .string ⟨s1.toArray⟩, .slice A51 n51 c51, .slice A61 n61 c61, .slice A71 n71 c71] 27) = x2 at *
 generalize x1.heap.size = gz at *
 have q0 := HQ.out
 have g0 := HG1.out
 have h0 := HH1.out
 have F := HF1.out
 have row := ROW1.out
 clear HQ HG1 HH1 HF1 ROW1 f1
 obtain ⟨u0, hu0⟩ := tok_at h0.inb
 refine (must_any [119, 105, 116, 104] P g c ts st1 u0 hu0 x2 h0 HE.out).mono ?_
 rintro e y0 ⟨rfl, h0, fm⟩
 have g0 := fm.keep g0 (by simp; omega)
 have q0 := fm.keep q0 (by simp; omega)
 have F := F.trans fm
 have row := RowG.keep (ok' := fun b => B < b ∧ ¬ b = T ∧ ¬ b = P) keepsE row (Sh.of_fr fm (fun b hb hlt => ⟨hb, by simp; exact hb.2.2⟩))
 clear fm
 have hle1 := hr1.le
 have hle2 := mustS_le u0 st1 [119, 105, 116, 104]
 obtain ⟨i0, hi, hz0, hz1, hz2⟩ := info_parts infoArm
 have HI := Lib.hid hi
 have HZ0 := Lib.hid hz0
 have HZ1 := Lib.hid hz1
 have HZ2 := Lib.hid hz2
 clear hi hz0 hz1 hz2
 have HR0 : Hid (∀ x' st', Run ts (if true = true then LKa k a (.mk k1 a1 nm1 n1 s1 ls1 args1 arms1) [] else ENDa k a (.mk k1 a1 nm1 n1 s1 ls1 args1 arms1) []) (mustS u0 st1 [119, 105, 116, 104]) (.e x') st' → Run ts (body (.arms k a)) st (.e x') st') := Lib.hid (fun x' st' h => arms_begin hr1 hu0 h)
 have row0 : RowE y0 (fun b => (B < b ∧ ¬ b = T ∧ ¬ b = P) ∧ (Value.slice none 0 0).ownBlock ≠ some b) (.slice (some ⟨gz, 0, none⟩) 1 1) [(.mk k1 a1 nm1 n1 s1 ls1 args1 arms1)] (fun _ => [.int .i64 k1, .int .i64 a1, .string ⟨nm1.toArray⟩, .int .i64 n1, .string ⟨s1.toArray⟩, .slice A51 n51 c51, .slice A61 n61 c61, .slice A71 n71 c71]) := RowG.keep keepsE row (Sh.of_fr (Fr.refl [] y0) (fun b hb hlt => ⟨⟨hb, by simp [Value.ownBlock]⟩, fun x => by cases x⟩))
 clear row hr1 hu0
 go_wp2_with fail
 go_loopw [5] (fun mv wr => ∃ (b : Bool) (acc : List (PatT × ExprT)) (v7 : Value) (c7 : Nat → List Value) (st0 : St), mv = .bool b ∧ Fr [P] w wr ∧ wr.heap[B]? = some (.cells #[.int .i64 0, .int .i64 0, .string ⟨#[]⟩, .int .i64 0, .string ⟨#[]⟩, .slice none 0 0, .slice none 0 0, .slice none 0 0] 27 (0, 0)) ∧ wr.heap[T]? = some (.cells #[.int .i64 k, .int .i64 a, .string ⟨#[]⟩, .int .i64 0, .string ⟨#[]⟩, .slice none 0 0, .slice (some ⟨gz, 0, none⟩) 1 1, v7] 27 (0, 0)) ∧ RowE wr (fun b => (B < b ∧ ¬ b = T ∧ ¬ b = P) ∧ v7.ownBlock ≠ some b) (.slice (some ⟨gz, 0, none⟩) 1 1) [(.mk k1 a1 nm1 n1 s1 ls1 args1 arms1)] (fun _ => [.int .i64 k1, .int .i64 a1, .string ⟨nm1.toArray⟩, .int .i64 n1, .string ⟨s1.toArray⟩, .slice A51 n51 c51, .slice A61 n61 c61, .slice A71 n71 c71]) ∧ RowA wr (fun b => B < b ∧ ¬ b = T ∧ ¬ b = P) v7 acc c7 ∧ PSt P g c ts st0 wr ∧ st.i ≤ st0.i ∧ acc.length ≤ st0.i + (if b = true then 0 else 1) ∧ Hid (∀ x' st', Run ts (if b = true then LKa k a (.mk k1 a1 nm1 n1 s1 ls1 args1 arms1) acc else ENDa k a (.mk k1 a1 nm1 n1 s1 ls1 args1 arms1) acc) st0 (.e x') st' → Run ts (body (.arms k a)) st (.e x') st')) (fun mv wr => 2 * (ts.length - plI wr P) + (match mv with | .bool true => 1 | _ => 0))
 case atStart => exact ⟨true, [], .slice none 0 0, fun _ => [], _, rfl, F, g0, q0, row0, RowG.nil_, h0, by omega, by simp, HR0⟩
 case round =>
  obtain ⟨b, acc, v7, c7, st0, rfl, F, g0, q0, rowE, rowA, h0, hle0, hacc, HR⟩ := hrel
  clear HR0 row0
  cases b with
  | false =>
   go_wp2_with fail
   have hform : ∃ A7 n7 cc7, v7 = .slice A7 n7 cc7 := by
    rcases rowA.own.2 with ⟨hv, _⟩ | ⟨g', cap, cur, hv, _⟩
    ·exact ⟨_, _, _, hv⟩
    ·exact ⟨_, _, _, hv⟩
   obtain ⟨A7, n7, cc7, rfl⟩ := hform
   obtain ⟨u, hu⟩ := tok_at h0.inb
   refine (must_any [101, 110, 100] P g c ts st0 u hu wr h0 HE.out).mono ?_
   rintro e y1 ⟨rfl, h0, fm⟩
   have g0 := fm.keep g0 (by simp; omega)
   have q0 := fm.keep q0 (by simp; omega)
   have F := F.trans fm
   have rowE := RowG.keep (ok' := fun b => B < b) keepsE rowE (Sh.of_fr fm (fun b hb hlt => ⟨hb.1.1, by simp; exact hb.1.2.2⟩))
   have rowA := RowG.keep (ok' := fun b => B < b) keepsA rowA (Sh.of_fr fm (fun b hb hlt => ⟨hb.1, by simp; exact hb.2.2⟩))
   have hBlt := lt_of_heap g0
   have hTlt := lt_of_heap q0
   obtain ⟨⟨l0, l1, l2, l3, l4, l5, l6, l7⟩, _⟩ := cells8 q0
   obtain ⟨⟨u0_, u1, u2, u3, u4, u5, u6, u7⟩, z0, z1, z2, z3, z4, z5, z6, z7⟩ := cells8 g0
   clear fm
   have HG := Lib.hid (st8_heap g0 (.int .i64 k) (.int .i64 a) (.string ⟨#[]⟩) (.int .i64 0) (.string ⟨#[]⟩) (.slice none 0 0) (.slice (some ⟨gz, 0, none⟩) 1 1) (.slice A7 n7 cc7))
   have HF := Lib.hid (F.step (st8_fr y1 B (.int .i64 k) (.int .i64 a) (.string ⟨#[]⟩) (.int .i64 0) (.string ⟨#[]⟩) (.slice none 0 0) (.slice (some ⟨gz, 0, none⟩) 1 1) (.slice A7 n7 cc7)) (fun x hx => .inr (by simp at hx; omega)))
   have HP := Lib.hid (h0.frL (st8_fr y1 B (.int .i64 k) (.int .i64 a) (.string ⟨#[]⟩) (.int .i64 0) (.string ⟨#[]⟩) (.slice none 0 0) (.slice (some ⟨gz, 0, none⟩) 1 1) (.slice A7 n7 cc7)) (by simp; omega) (by simp; omega))
   have HRW0 := Lib.hid (RowG.keep (ok' := fun b => B ≤ b) keepsE rowE (Sh.of_fr (st8_fr y1 B (.int .i64 k) (.int .i64 a) (.string ⟨#[]⟩) (.int .i64 0) (.string ⟨#[]⟩) (.slice none 0 0) (.slice (some ⟨gz, 0, none⟩) 1 1) (.slice A7 n7 cc7)) (fun b hb hlt => ⟨by omega, by simp; omega⟩)))
   have HRW1 := Lib.hid (RowG.keep (ok' := fun b => B ≤ b) keepsA rowA (Sh.of_fr (st8_fr y1 B (.int .i64 k) (.int .i64 a) (.string ⟨#[]⟩) (.int .i64 0) (.string ⟨#[]⟩) (.slice none 0 0) (.slice (some ⟨gz, 0, none⟩) 1 1) (.slice A7 n7 cc7)) (fun b hb hlt => ⟨by omega, by simp; omega⟩)))
   unfold st8 at HG HF HP HRW0 HRW1
   go_wp2_with fail
   generalize (((((((y1.setCell ⟨B, 0, none⟩ (.int .i64 k)).setCell ⟨B, 1, none⟩ (.int .i64 a)).setCell ⟨B, 2, none⟩ (.string ⟨#[]⟩)).setCell ⟨B, 3, none⟩ (.int .i64 0)).setCell ⟨B, 4, none⟩ (.string ⟨#[]⟩)).setCell ⟨B, 5, none⟩ (.slice none 0 0)).setCell ⟨B, 6, none⟩ (.slice (some ⟨gz, 0, none⟩) 1 1)).setCell ⟨B, 7, none⟩ (.slice A7 n7 cc7) = Z at HG HF HP HRW0 HRW1 ⊢
   obtain ⟨⟨d0, d1, d2, d3, d4, d5, d6, d7⟩, _⟩ := cells8 HG.out
   have hxx := ExprAt.of_rows (k := k) (a := a) (nm := []) (n := 0) (s := []) (c5 := fun _ => []) RowG.nil_ HRW0.out HRW1.out
   refine bodyPost_ret (v := .agg #[.int .i64 k, .int .i64 a, .string ⟨#[]⟩, .int .i64 0, .string ⟨#[]⟩, .slice none 0 0, .slice (some ⟨gz, 0, none⟩) 1 1, .slice A7 n7 cc7]) ?_ rfl ?_
   ·simp [results, Tryz.f55, go_sem, d0, d1, d2, d3, d4, d5, d6, d7]
   ·exact ⟨_, _, _, _, _, _, _, _, _, _, _, _, _, _, _, _, _, _, rfl, hxx.keep (Sh.of_fr (Fr.refl [] Z) (fun b hb hlt => ⟨by omega, fun x => by cases x⟩)), HR.out _ _ (by (first | rw [if_neg (by decide)] | rw [if_neg id]); exact .must_ hu .retE), HP.out, HF.out⟩
  | true =>
   obtain ⟨p0, p1, p2, _⟩ := cells3 h0.blk
   have hPw := lt_of_heap h0.blk
   cases hok : st0.ok with
   | false =>
    rw [hok] at p2
    have HOK := Lib.hid hok
    clear hok
    go_wp2_with fail
    clear p0 p1 p2
    have hform : ∃ A7 n7 cc7, v7 = .slice A7 n7 cc7 := by
     rcases rowA.own.2 with ⟨hv, _⟩ | ⟨g', cap, cur, hv, _⟩
     ·exact ⟨_, _, _, hv⟩
     ·exact ⟨_, _, _, hv⟩
    obtain ⟨A7, n7, cc7, rfl⟩ := hform
    obtain ⟨u, hu⟩ := tok_at h0.inb
    refine (must_any [101, 110, 100] P g c ts st0 u hu wr h0 HE.out).mono ?_
    rintro e y1 ⟨rfl, h0, fm⟩
    have g0 := fm.keep g0 (by simp; omega)
    have q0 := fm.keep q0 (by simp; omega)
    have F := F.trans fm
    have rowE := RowG.keep (ok' := fun b => B < b) keepsE rowE (Sh.of_fr fm (fun b hb hlt => ⟨hb.1.1, by simp; exact hb.1.2.2⟩))
    have rowA := RowG.keep (ok' := fun b => B < b) keepsA rowA (Sh.of_fr fm (fun b hb hlt => ⟨hb.1, by simp; exact hb.2.2⟩))
    have hBlt := lt_of_heap g0
    have hTlt := lt_of_heap q0
    obtain ⟨⟨l0, l1, l2, l3, l4, l5, l6, l7⟩, _⟩ := cells8 q0
    obtain ⟨⟨u0_, u1, u2, u3, u4, u5, u6, u7⟩, z0, z1, z2, z3, z4, z5, z6, z7⟩ := cells8 g0
    clear fm
    have HG := Lib.hid (st8_heap g0 (.int .i64 k) (.int .i64 a) (.string ⟨#[]⟩) (.int .i64 0) (.string ⟨#[]⟩) (.slice none 0 0) (.slice (some ⟨gz, 0, none⟩) 1 1) (.slice A7 n7 cc7))
    have HF := Lib.hid (F.step (st8_fr y1 B (.int .i64 k) (.int .i64 a) (.string ⟨#[]⟩) (.int .i64 0) (.string ⟨#[]⟩) (.slice none 0 0) (.slice (some ⟨gz, 0, none⟩) 1 1) (.slice A7 n7 cc7)) (fun x hx => .inr (by simp at hx; omega)))
    have HP := Lib.hid (h0.frL (st8_fr y1 B (.int .i64 k) (.int .i64 a) (.string ⟨#[]⟩) (.int .i64 0) (.string ⟨#[]⟩) (.slice none 0 0) (.slice (some ⟨gz, 0, none⟩) 1 1) (.slice A7 n7 cc7)) (by simp; omega) (by simp; omega))
    have HRW0 := Lib.hid (RowG.keep (ok' := fun b => B ≤ b) keepsE rowE (Sh.of_fr (st8_fr y1 B (.int .i64 k) (.int .i64 a) (.string ⟨#[]⟩) (.int .i64 0) (.string ⟨#[]⟩) (.slice none 0 0) (.slice (some ⟨gz, 0, none⟩) 1 1) (.slice A7 n7 cc7)) (fun b hb hlt => ⟨by omega, by simp; omega⟩)))
    have HRW1 := Lib.hid (RowG.keep (ok' := fun b => B ≤ b) keepsA rowA (Sh.of_fr (st8_fr y1 B (.int .i64 k) (.int .i64 a) (.string ⟨#[]⟩) (.int .i64 0) (.string ⟨#[]⟩) (.slice none 0 0) (.slice (some ⟨gz, 0, none⟩) 1 1) (.slice A7 n7 cc7)) (fun b hb hlt => ⟨by omega, by simp; omega⟩)))
    unfold st8 at HG HF HP HRW0 HRW1
    go_wp2_with fail
    generalize (((((((y1.setCell ⟨B, 0, none⟩ (.int .i64 k)).setCell ⟨B, 1, none⟩ (.int .i64 a)).setCell ⟨B, 2, none⟩ (.string ⟨#[]⟩)).setCell ⟨B, 3, none⟩ (.int .i64 0)).setCell ⟨B, 4, none⟩ (.string ⟨#[]⟩)).setCell ⟨B, 5, none⟩ (.slice none 0 0)).setCell ⟨B, 6, none⟩ (.slice (some ⟨gz, 0, none⟩) 1 1)).setCell ⟨B, 7, none⟩ (.slice A7 n7 cc7) = Z at HG HF HP HRW0 HRW1 ⊢
    obtain ⟨⟨d0, d1, d2, d3, d4, d5, d6, d7⟩, _⟩ := cells8 HG.out
    have hxx := ExprAt.of_rows (k := k) (a := a) (nm := []) (n := 0) (s := []) (c5 := fun _ => []) RowG.nil_ HRW0.out HRW1.out
    refine bodyPost_ret (v := .agg #[.int .i64 k, .int .i64 a, .string ⟨#[]⟩, .int .i64 0, .string ⟨#[]⟩, .slice none 0 0, .slice (some ⟨gz, 0, none⟩) 1 1, .slice A7 n7 cc7]) ?_ rfl ?_
    ·simp [results, Tryz.f55, go_sem, d0, d1, d2, d3, d4, d5, d6, d7]
    ·exact ⟨_, _, _, _, _, _, _, _, _, _, _, _, _, _, _, _, _, _, rfl, hxx.keep (Sh.of_fr (Fr.refl [] Z) (fun b hb hlt => ⟨by omega, fun x => by cases x⟩)), HR.out _ _ (by (first | rw [if_pos rfl] | rw [if_pos trivial]); exact LKa_no hu HOK.out (.must_ hu .retE)), HP.out, HF.out⟩
   | true =>
    rw [hok] at p2
    have HOK := Lib.hid hok
    clear hok
    go_wp2_with fail
    clear p0 p1 p2
    have HR1 := HR
    clear HR
    obtain ⟨u, hu⟩ := tok_at h0.inb
    have HPL := Lib.hid h0.pl
    have HACC := Lib.hid hacc
    have HLE0 := Lib.hid hle0
    clear hacc hle0
    refine (IHP.out P g c st0 wr h0 (by have := HN.out; have := HLE0.out; omega)).mono ?_
    rintro e x5 ⟨k2, a2, nm2, n2, s2, ls2, args2, A52, n52, c52, A62, n62, c62, st2, rfl, hx2, hr2, hst2, f5⟩
    have hTB5 := lt_of_heap g0
    have hTT5 := lt_of_heap q0
    go_wp2_with fail
    have qA := heap_new x5 (.cells #[.int .i64 k2, .int .i64 a2, .string ⟨nm2.toArray⟩, .int .i64 n2, .string ⟨s2.toArray⟩, .slice A52 n52 c52, .slice A62 n62 c62, .int .i64 0, .int .i64 0, .string ⟨#[]⟩, .int .i64 0, .string ⟨#[]⟩, .slice none 0 0, .slice none 0 0, .slice none 0 0] 64)
    have fb : Fr [] x5 (x5.alloc (.cells #[.int .i64 k2, .int .i64 a2, .string ⟨nm2.toArray⟩, .int .i64 n2, .string ⟨s2.toArray⟩, .slice A52 n52 c52, .slice A62 n62 c62, .int .i64 0, .int .i64 0, .string ⟨#[]⟩, .int .i64 0, .string ⟨#[]⟩, .slice none 0 0, .slice none 0 0, .slice none 0 0] 64)) := (Fr.refl [] x5).alloc _
    have h5 := hst2.fr fb
    have f6 := f5.trans0 fb
    have hs5 := f5.size
    have hx2 := hx2.keep (ok' := fun b => wr.heap.size ≤ b ∧ ¬ b = x5.heap.size) (Sh.of_fr fb (fun b hb hlt => ⟨⟨hb, by omega⟩, fun x => by cases x⟩))
    generalize x5.alloc (.cells #[.int .i64 k2, .int .i64 a2, .string ⟨nm2.toArray⟩, .int .i64 n2, .string ⟨s2.toArray⟩, .slice A52 n52 c52, .slice A62 n62 c62, .int .i64 0, .int .i64 0, .string ⟨#[]⟩, .int .i64 0, .string ⟨#[]⟩, .slice none 0 0, .slice none 0 0, .slice none 0 0] 64) = x6 at *
    have hTA : wr.heap.size ≤ x5.heap.size := hs5
    have hTA2 := lt_of_heap qA
    generalize x5.heap.size = TA at *
    clear fb f5 hs5 hst2
    obtain ⟨w2, hw2⟩ := tok_at h5.inb
    refine (must_any [45, 62] P g c ts st2 w2 hw2 x6 h5 HE.out).mono ?_
    rintro e x7 ⟨rfl, h7, f7⟩
    have qA := f7.keep qA (by simp; omega)
    have f7a := f6.trans f7
    have hx2 := hx2.keep (ok' := fun b => wr.heap.size ≤ b ∧ ¬ b = TA) (Sh.of_fr f7 (fun b hb hlt => ⟨hb, by simp; omega⟩))
    clear f6 f7 h5
    go_wp2_with fail
    have hTA7 := lt_of_heap qA
    have hle3 := hr2.le
    have hle4 := mustS_le w2 st2 [45, 62]
    refine (IH.out.seq P g c (mustS w2 st2 [45, 62]) x7 h7 (by have := HN.out; have := h7.inb; have := HLE0.out; omega)).mono ?_
    rintro e x8 ⟨k3, a3, nm3, n3, s3, ls3, args3, arms3, A53, n53, c53, A63, n63, c63, A73, n73, c73, st4, rfl, hx3, hr3, hst4, f8⟩
    have qA := f8.keep qA (by simp; omega)
    have f8a := f7a.trans f8
    have hs7 := f7a.size
    have hx2 := hx2.keep (ok' := fun b => wr.heap.size ≤ b ∧ ¬ b = TA) (Sh.of_fr f8 (fun b hb hlt => ⟨hb, by simp; omega⟩))
    have hx3 := hx3.keep (ok' := fun b => wr.heap.size ≤ b ∧ ¬ b = TA) (Sh.of_fr (Fr.refl [] x8) (fun b hb hlt => ⟨by have : x7.heap.size ≤ b := hb; exact ⟨by omega, by omega⟩, fun x => by cases x⟩))
    have fs := st15_fr x8 TA (.int .i64 k3) (.int .i64 a3) (.string ⟨nm3.toArray⟩) (.int .i64 n3) (.string ⟨s3.toArray⟩) (.slice A53 n53 c53) (.slice A63 n63 c63) (.slice A73 n73 c73)
    have hx2 := hx2.keep (ok' := fun b => wr.heap.size ≤ b) (Sh.of_fr fs (fun b hb hlt => ⟨hb.1, by simp; exact hb.2⟩))
    have hx3 := hx3.keep (ok' := fun b => wr.heap.size ≤ b) (Sh.of_fr fs (fun b hb hlt => ⟨hb.1, by simp; exact hb.2⟩))
    have hxa := ArmAt.mk hx2 hx3 rfl
    have f9 := f8a.step fs (fun x hx => .inr (by simp at hx; omega))
    have h9 := hst4.frL fs (by simp; omega) (by simp; omega)
    have HQA := Lib.hid (st15_heap qA (.int .i64 k3) (.int .i64 a3) (.string ⟨nm3.toArray⟩) (.int .i64 n3) (.string ⟨s3.toArray⟩) (.slice A53 n53 c53) (.slice A63 n63 c63) (.slice A73 n73 c73))
    have q9 := f9.keep q0 (by simp; omega)
    have HQ9 := Lib.hid q9
    have HXA := Lib.hid hxa
    have HF9 := Lib.hid f9
    have HH9 := Lib.hid h9
    have rowA9 := RowG.keep (ok' := fun b => B < b ∧ ¬ b = T ∧ ¬ b = P) keepsA rowA (Sh.of_fr f9 (fun b hb hlt => ⟨hb, by simp; exact hb.2.2⟩))
    have fC := (Fr.refl [] (st15 x8 TA (.int .i64 k3) (.int .i64 a3) (.string ⟨nm3.toArray⟩) (.int .i64 n3) (.string ⟨s3.toArray⟩) (.slice A53 n53 c53) (.slice A63 n63 c63) (.slice A73 n73 c73))).alloc (.cells #[.int .i64 k2, .int .i64 a2, .string ⟨nm2.toArray⟩, .int .i64 n2, .string ⟨s2.toArray⟩, .slice A52 n52 c52, .slice A62 n62 c62, .int .i64 k3, .int .i64 a3, .string ⟨nm3.toArray⟩, .int .i64 n3, .string ⟨s3.toArray⟩, .slice A53 n53 c53, .slice A63 n63 c63, .slice A73 n73 c73] 64)
    have HROWB := Lib.hid (RowG.keep (ok' := fun b => B < b ∧ ¬ b = T ∧ ¬ b = P) keepsA rowA9 (Sh.of_fr fC (fun b hb hlt => ⟨hb, fun x => by cases x⟩)))
    have hss := st15_size x8 TA (.int .i64 k3) (.int .i64 a3) (.string ⟨nm3.toArray⟩) (.int .i64 n3) (.string ⟨s3.toArray⟩) (.slice A53 n53 c53) (.slice A63 n63 c63) (.slice A73 n73 c73)
    have hnew := heap_new (st15 x8 TA (.int .i64 k3) (.int .i64 a3) (.string ⟨nm3.toArray⟩) (.int .i64 n3) (.string ⟨s3.toArray⟩) (.slice A53 n53 c53) (.slice A63 n63 c63) (.slice A73 n73 c73)) (.cells #[.int .i64 k2, .int .i64 a2, .string ⟨nm2.toArray⟩, .int .i64 n2, .string ⟨s2.toArray⟩, .slice A52 n52 c52, .slice A62 n62 c62, .int .i64 k3, .int .i64 a3, .string ⟨nm3.toArray⟩, .int .i64 n3, .string ⟨s3.toArray⟩, .slice A53 n53 c53, .slice A63 n63 c63, .slice A73 n73 c73] 64)
    rw [hss] at hnew
    have HNEW := Lib.hid hnew
    have HQC := Lib.hid (heap_old q9 (.cells #[.int .i64 k2, .int .i64 a2, .string ⟨nm2.toArray⟩, .int .i64 n2, .string ⟨s2.toArray⟩, .slice A52 n52 c52, .slice A62 n62 c62, .int .i64 k3, .int .i64 a3, .string ⟨nm3.toArray⟩, .int .i64 n3, .string ⟨s3.toArray⟩, .slice A53 n53 c53, .slice A63 n63 c63, .slice A73 n73 c73] 64))
    have HLEN : Hid (acc.length ≤ 4097) := Lib.hid (by have h1 := HACC.out; simp at h1; have h2 := HE.out.1; have h3 := h0.inb; omega)
    unfold st15 at HQA HQ9 HXA HF9 HH9 HROWB HNEW HQC
    clear rowA9 fC hss hnew
    have M15 : x8.cell? ⟨TA, 0, none⟩ = some (.int .i64 k2) ∧ x8.cell? ⟨TA, 1, none⟩ = some (.int .i64 a2) ∧ x8.cell? ⟨TA, 2, none⟩ = some (.string ⟨nm2.toArray⟩) ∧ x8.cell? ⟨TA, 3, none⟩ = some (.int .i64 n2) ∧ x8.cell? ⟨TA, 4, none⟩ = some (.string ⟨s2.toArray⟩) ∧ x8.cell? ⟨TA, 5, none⟩ = some (.slice A52 n52 c52) ∧ x8.cell? ⟨TA, 6, none⟩ = some (.slice A62 n62 c62) ∧ x8.cell? ⟨TA, 7, none⟩ = some (.int .i64 0) ∧ x8.cell? ⟨TA, 8, none⟩ = some (.int .i64 0) ∧ x8.cell? ⟨TA, 9, none⟩ = some (.string ⟨#[]⟩) ∧ x8.cell? ⟨TA, 10, none⟩ = some (.int .i64 0) ∧ x8.cell? ⟨TA, 11, none⟩ = some (.string ⟨#[]⟩) ∧ x8.cell? ⟨TA, 12, none⟩ = some (.slice none 0 0) ∧ x8.cell? ⟨TA, 13, none⟩ = some (.slice none 0 0) ∧ x8.cell? ⟨TA, 14, none⟩ = some (.slice none 0 0) := ⟨cell_of qA 0, cell_of qA 1, cell_of qA 2, cell_of qA 3, cell_of qA 4, cell_of qA 5, cell_of qA 6, cell_of qA 7, cell_of qA 8, cell_of qA 9, cell_of qA 10, cell_of qA 11, cell_of qA 12, cell_of qA 13, cell_of qA 14⟩
    have N15 : x8.frozen? ⟨TA, 7, none⟩ = false ∧ x8.frozen? ⟨TA, 8, none⟩ = false ∧ x8.frozen? ⟨TA, 9, none⟩ = false ∧ x8.frozen? ⟨TA, 10, none⟩ = false ∧ x8.frozen? ⟨TA, 11, none⟩ = false ∧ x8.frozen? ⟨TA, 12, none⟩ = false ∧ x8.frozen? ⟨TA, 13, none⟩ = false ∧ x8.frozen? ⟨TA, 14, none⟩ = false := ⟨frozen_of qA 7, frozen_of qA 8, frozen_of qA 9, frozen_of qA 10, frozen_of qA 11, frozen_of qA 12, frozen_of qA 13, frozen_of qA 14⟩
    obtain ⟨m0, m1, m2, m3, m4, m5, m6, m7, m8, m9, m10, m11, m12, m13, m14⟩ := M15
    obtain ⟨n7, n8, n9, n10, n11, n12, n13, n14⟩ := N15
    have hTA8 := lt_of_heap qA
    have hTT8 := lt_of_heap q9
    obtain ⟨⟨l0, l1, l2, l3, l4, l5, l6, l7⟩, _⟩ := cells8 (f8a.keep q0 (by simp; omega))
    have nTT : ¬ T = TA := by omega
    have nTT' : ¬ TA = T := by omega
    clear hx2 hx3 hxa f9 h9 q9 fs f8 f7a hst4 h7 f8a
    go_wp2_with (at_builtin; refine wpList_append_fp _ rfl _ _ 25 rfl 64 i0 _ 15 232 Tryz.underlying25 HI.out HZ0.out HZ1.out HZ2.out rfl (by decide) v7 acc.length (flatN c7 acc.length) rfl HROWB.out.own ⟨x8.heap.size, 0, none⟩ 1 1 [.int .i64 k2, .int .i64 a2, .string ⟨nm2.toArray⟩, .int .i64 n2, .string ⟨s2.toArray⟩, .slice A52 n52 c52, .slice A62 n62 c62, .int .i64 k3, .int .i64 a3, .string ⟨nm3.toArray⟩, .int .i64 n3, .string ⟨s3.toArray⟩, .slice A53 n53 c53, .slice A63 n63 c63, .slice A73 n73 c73] rfl rfl (World.news_of_block HNEW.out) (by simp [Value.oneCell']) (by simp only [maxLen]; have := HLEN.out; omega) (by have := HLEN.out; omega) ?_)
    intro v9 w9 hown9 hgrow9 hfp9
    obtain ⟨g9, cp9, hv9⟩ : ∃ g cap, v9 = .slice (some ⟨g, 0, none⟩) (acc.length + 1) cap := own_form hown9
    subst hv9
    clear m0 m1 m2 m3 m4 m5 m6 m7 m8 m9 m10 m11 m12 m13 m14 n7 n8 n9 n10 n11 n12 n13 n14 l0 l1 l2 l3 l4 l5 l6 l7
    have hsz9 : (((((((((x8.setCell ⟨TA, 7, none⟩ (.int .i64 k3)).setCell ⟨TA, 8, none⟩ (.int .i64 a3)).setCell ⟨TA, 9, none⟩ (.string ⟨nm3.toArray⟩)).setCell ⟨TA, 10, none⟩ (.int .i64 n3)).setCell ⟨TA, 11, none⟩ (.string ⟨s3.toArray⟩)).setCell ⟨TA, 12, none⟩ (.slice A53 n53 c53)).setCell ⟨TA, 13, none⟩ (.slice A63 n63 c63)).setCell ⟨TA, 14, none⟩ (.slice A73 n73 c73)).alloc (.cells #[.int .i64 k2, .int .i64 a2, .string ⟨nm2.toArray⟩, .int .i64 n2, .string ⟨s2.toArray⟩, .slice A52 n52 c52, .slice A62 n62 c62, .int .i64 k3, .int .i64 a3, .string ⟨nm3.toArray⟩, .int .i64 n3, .string ⟨s3.toArray⟩, .slice A53 n53 c53, .slice A63 n63 c63, .slice A73 n73 c73] 64)).heap.size = x8.heap.size + 1 := by simp [World.setCell]
    have hx8s : wr.heap.size ≤ x8.heap.size := by omega
    generalize (((((((x8.setCell ⟨TA, 7, none⟩ (.int .i64 k3)).setCell ⟨TA, 8, none⟩ (.int .i64 a3)).setCell ⟨TA, 9, none⟩ (.string ⟨nm3.toArray⟩)).setCell ⟨TA, 10, none⟩ (.int .i64 n3)).setCell ⟨TA, 11, none⟩ (.string ⟨s3.toArray⟩)).setCell ⟨TA, 12, none⟩ (.slice A53 n53 c53)).setCell ⟨TA, 13, none⟩ (.slice A63 n63 c63)).setCell ⟨TA, 14, none⟩ (.slice A73 n73 c73) = x9 at *
    rw [← hsz9] at hfp9
    have Q9 := (hgrow9.block T (lt_of_heap HQC.out) (fun e => (HROWB.out.blk T e.symm).2.1 rfl)).trans HQC.out
    have hT9 := lt_of_heap Q9
    obtain ⟨⟨l0, l1, l2, l3, l4, l5, l6, l7⟩, z0, z1, z2, z3, z4, z5, z6, z7⟩ := cells8 Q9
    have AA := app_after (fld := 7) (size := 15) keepsA HF9.out HXA.out rfl HH9.out g0 q0 rowA F (by omega) (by omega) (by omega) (by omega) (by omega) (by omega) (by omega) hown9 hgrow9 hfp9 (VV' := #[.int .i64 k, .int .i64 a, .string ⟨#[]⟩, .int .i64 0, .string ⟨#[]⟩, .slice none 0 0, .slice (some ⟨gz, 0, none⟩) 1 1, .slice (some ⟨g9, 0, none⟩) (acc.length + 1) cp9]) rfl
    have HAA := Lib.hid AA
    clear AA HQ9 HXA HF9 HH9 HROWB HNEW HQC HQA hown9 hgrow9 hfp9 F g0 q0 rowA h0 Q9 qA
    go_wp2_with fail
    clear l0 l1 l2 l3 l4 l5 l6 l7 z0 z1 z2 z3 z4 z5 z6 z7 hT9
    obtain ⟨F, g0, q0, h0, rowA, hsh, hnew, hsz⟩ := HAA.out
    have hv9 : w9.setCell ⟨T, 7, none⟩ (.slice (some ⟨g9, 0, none⟩) (acc.length + 1) cp9) = w9.setCell ⟨T, 7, none⟩ (.slice (some ⟨g9, 0, none⟩) (acc.length + 1) cp9) := rfl
    clear hv9 HAA
    generalize w9.setCell ⟨T, 7, none⟩ (.slice (some ⟨g9, 0, none⟩) (acc.length + 1) cp9) = y9 at *
    have rowE := RowG.keep (ok' := fun b => (B < b ∧ ¬ b = T ∧ ¬ b = P) ∧ (Value.slice (some ⟨g9, 0, none⟩) (acc.length + 1) cp9).ownBlock ≠ some b) keepsE rowE (fun b hb hlt => ⟨⟨hb.1, fun e => (hnew b e).elim hb.2 (fun h => by omega)⟩, hsh b hlt hb.1.2.1 hb.1.2.2 hb.2⟩)
    clear hsh hnew hsz
    obtain ⟨v, hv⟩ := tok_at h0.inb
    have hle5 := hr3.le
    have hpl0 := HPL.out
    cases hb : isB v st4.ok [[124]] with
    | true =>
     refine (may_yes [124] P g c ts st4 v hv hb y9 h0 HE.out).mono ?_
     rintro e y10 ⟨rfl, h0, fm⟩
     have g0 := fm.keep g0 (by simp; omega)
     have q0 := fm.keep q0 (by simp; omega)
     have F := F.trans fm
     have rowE := RowG.keep (ok' := fun b => (B < b ∧ ¬ b = T ∧ ¬ b = P) ∧ (Value.slice (some ⟨g9, 0, none⟩) (acc.length + 1) cp9).ownBlock ≠ some b) keepsE rowE (Sh.of_fr fm (fun b hb hlt => ⟨hb, by simp; exact hb.1.2.2⟩))
     have rowA := RowG.keep (ok' := fun b => B < b ∧ ¬ b = T ∧ ¬ b = P) keepsA rowA (Sh.of_fr fm (fun b hb hlt => ⟨hb, by simp; exact hb.2.2⟩))
     clear fm
     go_wp2_with fail
     go_roundw
     case rel => exact ⟨true, acc ++ [((.mk k2 a2 nm2 n2 s2 ls2 args2), (.mk k3 a3 nm3 n3 s3 ls3 args3 arms3))], _, _, _, rfl, F, g0, q0, rowE, rowA, h0, (by have := HLE0.out; simp only at *; omega), (by have := HACC.out; simp at this ⊢; omega), Lib.hid (fun x' st' h => HR1.out _ _ (by
      have hh := arms_round hu HOK.out hr2 hw2 hr3 hv hb (z := x') (st' := st') (by rw [if_pos rfl, if_pos rfl]; (first | (rw [if_pos rfl] at h; exact h) | (rw [if_pos trivial] at h; exact h)))
      (first | (rw [if_pos rfl]; exact hh) | (rw [if_pos trivial]; exact hh))))⟩
     case measure =>
      have hin1 := h0.inb
      have hpl1 := h0.pl
      rw [hpl1, hpl0]
      simp only at *
      omega
    | false =>
     refine (may_no [124] P g c ts st4 v hv hb y9 h0 HE.out).mono ?_
     rintro e y10 ⟨rfl, fm⟩
     have g0 := fm.keep g0 (fun x => by cases x)
     have q0 := fm.keep q0 (fun x => by cases x)
     have F := F.trans0 fm
     have h0 := h0.fr fm
     have rowE := RowG.keep (ok' := fun b => (B < b ∧ ¬ b = T ∧ ¬ b = P) ∧ (Value.slice (some ⟨g9, 0, none⟩) (acc.length + 1) cp9).ownBlock ≠ some b) keepsE rowE (Sh.of_fr fm (fun b hb hlt => ⟨hb, fun x => by cases x⟩))
     have rowA := RowG.keep (ok' := fun b => B < b ∧ ¬ b = T ∧ ¬ b = P) keepsA rowA (Sh.of_fr fm (fun b hb hlt => ⟨hb, fun x => by cases x⟩))
     clear fm
     go_wp2_with fail
     go_roundw
     case rel => exact ⟨false, acc ++ [((.mk k2 a2 nm2 n2 s2 ls2 args2), (.mk k3 a3 nm3 n3 s3 ls3 args3 arms3))], _, _, _, rfl, F, g0, q0, rowE, rowA, h0, (by have := HLE0.out; omega), (by have := HACC.out; simp at this ⊢; omega), Lib.hid (fun x' st' h => HR1.out _ _ (by
      have hh := arms_round hu HOK.out hr2 hw2 hr3 hv hb (z := x') (st' := st') (by rw [if_neg (by decide), if_neg (by decide)]; (first | (rw [if_neg (by decide)] at h; exact h) | (rw [if_neg id] at h; exact h)))
      (first | (rw [if_pos rfl]; exact hh) | (rw [if_pos trivial]; exact hh))))⟩
     case measure =>
      have hpl1 := h0.pl
      rw [hpl1, hpl0]
      simp only at *
      omega
end Go.Proofs.YtpjkfeehgookkaaGreatDoor
namespace Go.Proofs.YtpjkfeehgookkaaGreatDoor
open Go.RowKit
attribute [local go_sem ↓] Go.wp_at_zero Go.wp_at_succ
set_option maxHeartbeats 16000000 in
set_option maxRecDepth 100000 in
theorem braces_empty (ts : List Tok) (hE : EndOk ts) (N : Nat) (ih : AllE ts N) (P g c : Nat) (st : St) (a : Int) (w : World) (h : PSt P g c ts st w) (hm : 16 * (ts.length - st.i) + 14 < N + 1) (t : Tok) (ht : ts[st.i]? = some t) (hb : isB t st.ok [[125]] = true) : Calls Tryz.prog 112 #[.pointer (some ⟨P, 0, none⟩), .agg #[.int .i64 0, .int .i64 a, .string ⟨#[]⟩, .int .i64 0, .string ⟨#[]⟩, .slice none 0 0, .slice none 0 0, .slice none 0 0]] w (ExOk P g c ts st (body (.braces a)) w) := by
 have HB := Lib.hid hb
 clear hb
 have HT := Lib.hid ht
 clear ht
 have IH := Lib.hid ih
 clear ih
 have H := Lib.hid h
 have hP := lt_of_heap h.blk
 have hgl := h.lt
 have hin := h.inb
 have HN := Lib.hid hm
 have HE := Lib.hid hE
 clear h hm hE
 go_enter Tryz.func112, Tryz.ntmps112
 go_wp2_with fail
 have f0 : Fr [] w ((w.alloc (.cells #[.int .i64 0, .int .i64 a, .string ⟨#[]⟩, .int .i64 0, .string ⟨#[]⟩, .slice none 0 0, .slice none 0 0, .slice none 0 0] 27)).alloc (.cells #[.int .i64 0, .int .i64 0, .string ⟨#[]⟩, .int .i64 0, .string ⟨#[]⟩, .slice none 0 0, .slice none 0 0, .slice none 0 0] 27)) := ((Fr.refl [] w).alloc _).alloc _
 have q0 := heap_old (heap_new w (.cells #[.int .i64 0, .int .i64 a, .string ⟨#[]⟩, .int .i64 0, .string ⟨#[]⟩, .slice none 0 0, .slice none 0 0, .slice none 0 0] 27)) (.cells #[.int .i64 0, .int .i64 0, .string ⟨#[]⟩, .int .i64 0, .string ⟨#[]⟩, .slice none 0 0, .slice none 0 0, .slice none 0 0] 27)
 have g0 := heap_new (w.alloc (.cells #[.int .i64 0, .int .i64 a, .string ⟨#[]⟩, .int .i64 0, .string ⟨#[]⟩, .slice none 0 0, .slice none 0 0, .slice none 0 0] 27)) (.cells #[.int .i64 0, .int .i64 0, .string ⟨#[]⟩, .int .i64 0, .string ⟨#[]⟩, .slice none 0 0, .slice none 0 0, .slice none 0 0] 27)
 have hsz : (w.alloc (.cells #[.int .i64 0, .int .i64 a, .string ⟨#[]⟩, .int .i64 0, .string ⟨#[]⟩, .slice none 0 0, .slice none 0 0, .slice none 0 0] 27)).heap.size = w.heap.size + 1 := by simp
 rw [hsz] at g0
 clear hsz
 have h0 := H.out.fr f0
 have F := f0.mono (L' := [P]) (fun x hx => by cases hx)
 generalize (w.alloc (.cells #[.int .i64 0, .int .i64 a, .string ⟨#[]⟩, .int .i64 0, .string ⟨#[]⟩, .slice none 0 0, .slice none 0 0, .slice none 0 0] 27)).alloc (.cells #[.int .i64 0, .int .i64 0, .string ⟨#[]⟩, .int .i64 0, .string ⟨#[]⟩, .slice none 0 0, .slice none 0 0, .slice none 0 0] 27) = w1 at *
 generalize hT : w.heap.size = T at *
 generalize hB : T + 1 = B at *
 have hPT : P < T := hP
 have hgT : g < T := hgl
 clear f0 hP hgl
 refine (may_yes [125] P g c ts st t HT.out HB.out w1 h0 HE.out).mono ?_
 rintro e x1 ⟨rfl, h0, fm⟩
 have g0 := fm.keep g0 (by simp; omega)
 have q0 := fm.keep q0 (by simp; omega)
 have F := F.trans fm
 clear fm
 obtain ⟨⟨m0, m1, m2, m3, m4, m5, m6, m7⟩, j0, j1, j2, j3, j4, j5, j6, j7⟩ := cells8 q0
 obtain ⟨⟨u0_, u1, u2, u3, u4, u5, u6, u7⟩, z0, z1, z2, z3, z4, z5, z6, z7⟩ := cells8 g0
 have hTx := lt_of_heap q0
 have hBx := lt_of_heap g0
 have nBT : ¬ B = T := by omega
 have nTB : ¬ T = B := by omega
 have fs := ((Fr.refl [T] x1).setCell (p := ⟨T, 0, none⟩) (.inl (by simp)) (.int .i64 12))
 have g0 := fs.keep g0 (by simp; omega)
 have h0 := h0.frL fs (by simp; omega) (by simp; omega)
 have F := F.step fs (fun x hx => .inr (by simp at hx; omega))
 have HG := Lib.hid (st8_heap g0 (.int .i64 12) (.int .i64 a) (.string ⟨#[]⟩) (.int .i64 0) (.string ⟨#[]⟩) (.slice none 0 0) (.slice none 0 0) (.slice none 0 0))
 have HF := Lib.hid (F.step (st8_fr (x1.setCell ⟨T, 0, none⟩ (.int .i64 12)) B (.int .i64 12) (.int .i64 a) (.string ⟨#[]⟩) (.int .i64 0) (.string ⟨#[]⟩) (.slice none 0 0) (.slice none 0 0) (.slice none 0 0)) (fun x hx => .inr (by simp at hx; omega)))
 have HP := Lib.hid (h0.frL (st8_fr (x1.setCell ⟨T, 0, none⟩ (.int .i64 12)) B (.int .i64 12) (.int .i64 a) (.string ⟨#[]⟩) (.int .i64 0) (.string ⟨#[]⟩) (.slice none 0 0) (.slice none 0 0) (.slice none 0 0)) (by simp; omega) (by simp; omega))
 unfold st8 at HG HF HP 
 go_wp2_with fail
 generalize ((((((((x1.setCell ⟨T, 0, none⟩ (.int .i64 12)).setCell ⟨B, 0, none⟩ (.int .i64 12)).setCell ⟨B, 1, none⟩ (.int .i64 a)).setCell ⟨B, 2, none⟩ (.string ⟨#[]⟩)).setCell ⟨B, 3, none⟩ (.int .i64 0)).setCell ⟨B, 4, none⟩ (.string ⟨#[]⟩)).setCell ⟨B, 5, none⟩ (.slice none 0 0)).setCell ⟨B, 6, none⟩ (.slice none 0 0)).setCell ⟨B, 7, none⟩ (.slice none 0 0) = Z at HG HF HP  ⊢
 obtain ⟨⟨d0, d1, d2, d3, d4, d5, d6, d7⟩, _⟩ := cells8 HG.out
 have hxx := ExprAt.of_rows (w := Z) (ok := fun b => B ≤ b) (k := 12) (a := a) (nm := []) (n := 0) (s := []) (c5 := fun _ => []) RowG.nil_ (c6 := fun _ => []) RowG.nil_ (c7 := fun _ => []) RowG.nil_
 refine bodyPost_ret (v := .agg #[.int .i64 12, .int .i64 a, .string ⟨#[]⟩, .int .i64 0, .string ⟨#[]⟩, .slice none 0 0, .slice none 0 0, .slice none 0 0]) ?_ rfl ?_
 ·simp [results, Tryz.f112, go_sem, d0, d1, d2, d3, d4, d5, d6, d7]
 ·exact ⟨_, _, _, _, _, _, _, _, _, _, _, _, _, _, _, _, _, _, rfl, hxx.keep (Sh.of_fr (Fr.refl [] Z) (fun b hb hlt => ⟨by omega, fun x => by cases x⟩)), by unfold body; exact .may_yes HT.out HB.out (.thn .retE), HP.out, HF.out⟩
end Go.Proofs.YtpjkfeehgookkaaGreatDoor
namespace Go.Proofs.YtpjkfeehgookkaaGreatDoor
open Go.RowKit
attribute [local go_sem ↓] Go.wp_at_zero Go.wp_at_succ
set_option maxHeartbeats 16000000 in
set_option maxRecDepth 100000 in
theorem braces_with1 (ts : List Tok) (hE : EndOk ts) (N : Nat) (ih : AllE ts N) (P g c : Nat) (st : St) (a : Int) (w : World) (h : PSt P g c ts st w) (hm : 16 * (ts.length - st.i) + 14 < N + 1) (t : Tok) (ht : ts[st.i]? = some t) (hb : isB t st.ok [[125]] = false) (n : Tok) (J : Nat) (hj : J = min (st.i + 1) (ts.length - 1)) (hn : ts[J]? = some n) (hk : (t.k == 1) = false) : Calls Tryz.prog 112 #[.pointer (some ⟨P, 0, none⟩), .agg #[.int .i64 0, .int .i64 a, .string ⟨#[]⟩, .int .i64 0, .string ⟨#[]⟩, .slice none 0 0, .slice none 0 0, .slice none 0 0]] w (ExOk P g c ts st (body (.braces a)) w) := by
 have HB := Lib.hid hb
 clear hb
 have HJ := Lib.hid hj
 clear hj
 have HN_ := Lib.hid hn
 clear hn
 have HK := Lib.hid hk
 clear hk
 have HT := Lib.hid ht
 clear ht
 have IH := Lib.hid ih
 clear ih
 have H := Lib.hid h
 have hP := lt_of_heap h.blk
 have hgl := h.lt
 have hin := h.inb
 have HN := Lib.hid hm
 have HE := Lib.hid hE
 clear h hm hE
 go_enter Tryz.func112, Tryz.ntmps112
 go_wp2_with fail
 have f0 : Fr [] w ((w.alloc (.cells #[.int .i64 0, .int .i64 a, .string ⟨#[]⟩, .int .i64 0, .string ⟨#[]⟩, .slice none 0 0, .slice none 0 0, .slice none 0 0] 27)).alloc (.cells #[.int .i64 0, .int .i64 0, .string ⟨#[]⟩, .int .i64 0, .string ⟨#[]⟩, .slice none 0 0, .slice none 0 0, .slice none 0 0] 27)) := ((Fr.refl [] w).alloc _).alloc _
 have q0 := heap_old (heap_new w (.cells #[.int .i64 0, .int .i64 a, .string ⟨#[]⟩, .int .i64 0, .string ⟨#[]⟩, .slice none 0 0, .slice none 0 0, .slice none 0 0] 27)) (.cells #[.int .i64 0, .int .i64 0, .string ⟨#[]⟩, .int .i64 0, .string ⟨#[]⟩, .slice none 0 0, .slice none 0 0, .slice none 0 0] 27)
 have g0 := heap_new (w.alloc (.cells #[.int .i64 0, .int .i64 a, .string ⟨#[]⟩, .int .i64 0, .string ⟨#[]⟩, .slice none 0 0, .slice none 0 0, .slice none 0 0] 27)) (.cells #[.int .i64 0, .int .i64 0, .string ⟨#[]⟩, .int .i64 0, .string ⟨#[]⟩, .slice none 0 0, .slice none 0 0, .slice none 0 0] 27)
 have hsz : (w.alloc (.cells #[.int .i64 0, .int .i64 a, .string ⟨#[]⟩, .int .i64 0, .string ⟨#[]⟩, .slice none 0 0, .slice none 0 0, .slice none 0 0] 27)).heap.size = w.heap.size + 1 := by simp
 rw [hsz] at g0
 clear hsz
 have h0 := H.out.fr f0
 have F := f0.mono (L' := [P]) (fun x hx => by cases hx)
 generalize (w.alloc (.cells #[.int .i64 0, .int .i64 a, .string ⟨#[]⟩, .int .i64 0, .string ⟨#[]⟩, .slice none 0 0, .slice none 0 0, .slice none 0 0] 27)).alloc (.cells #[.int .i64 0, .int .i64 0, .string ⟨#[]⟩, .int .i64 0, .string ⟨#[]⟩, .slice none 0 0, .slice none 0 0, .slice none 0 0] 27) = w1 at *
 generalize hT : w.heap.size = T at *
 generalize hB : T + 1 = B at *
 have hPT : P < T := hP
 have hgT : g < T := hgl
 clear f0 hP hgl
 refine (may_no [125] P g c ts st t HT.out HB.out w1 h0 HE.out).mono ?_
 rintro e x1 ⟨rfl, fm⟩
 have g0 := fm.keep g0 (fun x => by cases x)
 have q0 := fm.keep q0 (fun x => by cases x)
 have F := F.trans0 fm
 have h0 := h0.fr fm
 clear fm
 go_wp2_with fail
 obtain ⟨p0, p1, p2, _⟩ := cells3 h0.blk
 have a0 := h0.rt.c0 _ _ HN_.out
 have a1 := h0.rt.c1 _ _ HN_.out
 have a2 := h0.rt.c2 _ _ HN_.out
 have a3 := h0.rt.c3 _ _ HN_.out
 have hPx := lt_of_heap h0.blk
 have hgx := h0.lt
 have hts := HE.out.1
 have hmin : min ((st.i : Int) + 1) ((ts.length - 1 : Nat) : Int) = (J : Int) := by have := HJ.out; omega
 have hJ1 : (0 : Int) ≤ (J : Int) := by omega
 have hJ2 : (J : Int) < (ts.length : Int) := by have := HJ.out; omega
 have w1q : IntKind.i64.wrap ((st.i : Int) + 1) = ((st.i + 1 : Nat) : Int) := (IntWalk.i64_in _ (by omega)).trans (by omega)
 have w2q : IntKind.i64.wrap ((ts.length : Int) - 1) = ((ts.length - 1 : Nat) : Int) := (IntWalk.i64_in _ (by omega)).trans (by omega)
 refine wp_region_last20 (fun w' => w'.cell? ⟨P, 0, none⟩ = some (.slice (some ⟨g, 0, none⟩) ts.length c) ∧ w'.cell? ⟨P, 1, none⟩ = some (.int .i64 (st.i : Nat)) ∧ w'.cell? ⟨g, J * 4, none⟩ = some (.int .i64 n.k) ∧ w'.cell? ⟨g, J * 4 + 1, none⟩ = some (.int .i64 n.at') ∧ w'.cell? ⟨g, J * 4 + 2, none⟩ = some (.string ⟨n.text.toArray⟩) ∧ w'.cell? ⟨g, J * 4 + 3, none⟩ = some (.int .i64 n.n)) (by kernel_rfl) (by kernel_rfl) ?hS1000 (fun K hK hHeld => ?hr1000)
 case hS1000 => go_keep
 refine held_take (i := 0) (v := ?v1001) rfl (by kernel_rfl) (by kernel_rfl) (by kernel_rfl) (fun _ _ _ h => h) (Or.inl ⟨by rfl, ?hy1001⟩) (by assumption) ?hr1001
 case hy1001 =>
  intro w' hSw
  (try dsimp only at hSw)
  go_simp
  (try with_reducible rfl)
 (try simp only [Act.put, List.setIfInBounds_toArray, List.set_cons_zero, List.set_cons_succ])
 refine held_take (i := 1) (v := ?v1002) rfl (by kernel_rfl) (by kernel_rfl) (by kernel_rfl) (fun _ _ _ h => h) (Or.inl ⟨by rfl, ?hy1002⟩) (by assumption) ?hr1002
 case hy1002 =>
  intro w' hSw
  (try dsimp only at hSw)
  go_simp
  (try with_reducible rfl)
 (try simp only [Act.put, List.setIfInBounds_toArray, List.set_cons_zero, List.set_cons_succ])
 refine held_take (i := 2) (v := ?v1003) rfl (by kernel_rfl) (by kernel_rfl) (by kernel_rfl) (fun _ _ _ h => h) (Or.inl ⟨by rfl, ?hy1003⟩) (by assumption) ?hr1003
 case hy1003 =>
  intro w' hSw
  (try dsimp only at hSw)
  go_simp
  (try with_reducible rfl)
 (try simp only [Act.put, List.setIfInBounds_toArray, List.set_cons_zero, List.set_cons_succ])
 refine held_take (i := 3) (v := ?v1004) rfl (by kernel_rfl) (by kernel_rfl) (by kernel_rfl) (fun _ _ _ h => h) (Or.inl ⟨by rfl, ?hy1004⟩) (by assumption) ?hr1004
 case hy1004 =>
  intro w' hSw
  (try dsimp only at hSw)
  go_simp
  (try with_reducible rfl)
 (try simp only [Act.put, List.setIfInBounds_toArray, List.set_cons_zero, List.set_cons_succ])
 refine held_take (i := 4) (v := ?v1005) rfl (by kernel_rfl) (by kernel_rfl) (by kernel_rfl) (fun _ _ _ h => h) (Or.inl ⟨by rfl, ?hy1005⟩) (by assumption) ?hr1005
 case hy1005 =>
  intro w' hSw
  (try dsimp only at hSw)
  go_simp
  (try with_reducible rfl)
 (try simp only [Act.put, List.setIfInBounds_toArray, List.set_cons_zero, List.set_cons_succ])
 refine held_take (i := 5) (v := ?v1006) rfl (by kernel_rfl) (by kernel_rfl) (by kernel_rfl) (fun _ _ _ h => h) (Or.inl ⟨by rfl, ?hy1006⟩) (by assumption) ?hr1006
 case hy1006 =>
  intro w' hSw
  (try dsimp only at hSw)
  go_simp
  (try with_reducible rfl)
 (try simp only [Act.put, List.setIfInBounds_toArray, List.set_cons_zero, List.set_cons_succ])
 refine held_take (i := 6) (v := ?v1007) rfl (by kernel_rfl) (by kernel_rfl) (by kernel_rfl) (fun _ _ _ h => h) (Or.inl ⟨by rfl, ?hy1007⟩) (by assumption) ?hr1007
 case hy1007 =>
  intro w' hSw
  (try dsimp only at hSw)
  go_simp
  (try with_reducible rfl)
 (try simp only [Act.put, List.setIfInBounds_toArray, List.set_cons_zero, List.set_cons_succ])
 refine held_take (i := 7) (v := ?v1008) rfl (by kernel_rfl) (by kernel_rfl) (by kernel_rfl) (fun _ _ _ h => h) (Or.inl ⟨by rfl, ?hy1008⟩) (by assumption) ?hr1008
 case hy1008 =>
  intro w' hSw
  (try dsimp only at hSw)
  go_simp
  (try with_reducible rfl)
 (try simp only [Act.put, List.setIfInBounds_toArray, List.set_cons_zero, List.set_cons_succ])
 refine held_take (i := 8) (v := ?v1009) rfl (by kernel_rfl) (by kernel_rfl) (by kernel_rfl) (fun _ _ _ h => h) (Or.inl ⟨by rfl, ?hy1009⟩) (by assumption) ?hr1009
 case hy1009 =>
  intro w' hSw
  (try dsimp only at hSw)
  go_simp
  (try with_reducible rfl)
 (try simp only [Act.put, List.setIfInBounds_toArray, List.set_cons_zero, List.set_cons_succ])
 refine held_take (i := 9) (v := ?v1010) rfl (by kernel_rfl) (by kernel_rfl) (by kernel_rfl) (fun _ _ _ h => h) (Or.inl ⟨by rfl, ?hy1010⟩) (by assumption) ?hr1010
 case hy1010 =>
  intro w' hSw
  (try dsimp only at hSw)
  go_simp
  (try with_reducible rfl)
 (try simp only [Act.put, List.setIfInBounds_toArray, List.set_cons_zero, List.set_cons_succ])
 refine held_take (i := 10) (v := ?v1011) rfl (by kernel_rfl) (by kernel_rfl) (by kernel_rfl) (fun _ _ _ h => h) (Or.inl ⟨by rfl, ?hy1011⟩) (by assumption) ?hr1011
 case hy1011 =>
  intro w' hSw
  (try dsimp only at hSw)
  go_simp
  (try with_reducible rfl)
 (try simp only [Act.put, List.setIfInBounds_toArray, List.set_cons_zero, List.set_cons_succ])
 refine held_take (i := 11) (v := ?v1012) rfl (by kernel_rfl) (by kernel_rfl) (by kernel_rfl) (fun _ _ _ h => h) (Or.inl ⟨by rfl, ?hy1012⟩) (by assumption) ?hr1012
 case hy1012 =>
  intro w' hSw
  (try dsimp only at hSw)
  go_simp
  (try with_reducible rfl)
 (try simp only [Act.put, List.setIfInBounds_toArray, List.set_cons_zero, List.set_cons_succ])
 refine held_take (i := 12) (v := ?v1013) rfl (by kernel_rfl) (by kernel_rfl) (by kernel_rfl) (fun _ _ _ h => h) (Or.inl ⟨by rfl, ?hy1013⟩) (by assumption) ?hr1013
 case hy1013 =>
  intro w' hSw
  (try dsimp only at hSw)
  go_simp
  (try with_reducible rfl)
 (try simp only [Act.put, List.setIfInBounds_toArray, List.set_cons_zero, List.set_cons_succ])
 refine held_take (i := 13) (v := ?v1014) rfl (by kernel_rfl) (by kernel_rfl) (by kernel_rfl) (fun _ _ _ h => h) (Or.inl ⟨by rfl, ?hy1014⟩) (by assumption) ?hr1014
 case hy1014 =>
  intro w' hSw
  (try dsimp only at hSw)
  go_simp
  (try with_reducible rfl)
 (try simp only [Act.put, List.setIfInBounds_toArray, List.set_cons_zero, List.set_cons_succ])
 refine held_take (i := 14) (v := ?v1015) rfl (by kernel_rfl) (by kernel_rfl) (by kernel_rfl) (fun _ _ _ h => h) (Or.inl ⟨by rfl, ?hy1015⟩) (by assumption) ?hr1015
 case hy1015 =>
  intro w' hSw
  (try dsimp only at hSw)
  go_simp
  (try with_reducible rfl)
 (try simp only [Act.put, List.setIfInBounds_toArray, List.set_cons_zero, List.set_cons_succ])
 refine held_take (i := 15) (v := ?v1016) rfl (by kernel_rfl) (by kernel_rfl) (by kernel_rfl) (fun _ _ _ h => h) (Or.inl ⟨by rfl, ?hy1016⟩) (by assumption) ?hr1016
 case hy1016 =>
  intro w' hSw
  (try dsimp only at hSw)
  go_simp
  (try with_reducible rfl)
 (try simp only [Act.put, List.setIfInBounds_toArray, List.set_cons_zero, List.set_cons_succ])
 refine held_take (i := 16) (v := ?v1017) rfl (by kernel_rfl) (by kernel_rfl) (by kernel_rfl) (fun _ _ _ h => h) (Or.inl ⟨by rfl, ?hy1017⟩) (by assumption) ?hr1017
 case hy1017 =>
  intro w' hSw
  (try dsimp only at hSw)
  go_simp
  (try with_reducible rfl)
 (try simp only [Act.put, List.setIfInBounds_toArray, List.set_cons_zero, List.set_cons_succ])
 refine held_take (i := 17) (v := ?v1018) rfl (by kernel_rfl) (by kernel_rfl) (by kernel_rfl) (fun _ _ _ h => h) (Or.inl ⟨by rfl, ?hy1018⟩) (by assumption) ?hr1018
 case hy1018 =>
  intro w' hSw
  (try dsimp only at hSw)
  go_simp
  (try with_reducible rfl)
 (try simp only [Act.put, List.setIfInBounds_toArray, List.set_cons_zero, List.set_cons_succ])
 refine held_step (i := 18) rfl (by kernel_rfl) (fun K18 hK18 => ?hr1019)
 go_simp
 refine hK18.out _ _ ?hS1019 (fun hHeld => ?hq1019)
 case hS1019 => go_keep
 clear hK18 K18
 (try simp only [Act.put, List.setIfInBounds_toArray, List.set_cons_zero, List.set_cons_succ])
 refine wpAnyH_done (by kernel_rfl) ?hr1020 _
 refine thenLast_run rfl ?hq1020
 go_simp
 refine hK.out _ _ ?hs1020
 clear hK K
 clear p0 p1 p2 a0 a1 a2 a3 hHeld hmin hJ1 hJ2 w1q w2q
 have fd : Fr [] x1 ((x1.alloc (.cells #[.int .i64 n.k, .int .i64 n.at', .string ⟨n.text.toArray⟩, .int .i64 n.n] 46)).drew) := ((Fr.refl [] x1).alloc _).drew
 have q5 : ((x1.alloc (.cells #[.int .i64 n.k, .int .i64 n.at', .string ⟨n.text.toArray⟩, .int .i64 n.n] 46)).drew).heap[x1.heap.size]? = some (.cells #[.int .i64 n.k, .int .i64 n.at', .string ⟨n.text.toArray⟩, .int .i64 n.n] 46 (0, 0)) := heap_new x1 (.cells #[.int .i64 n.k, .int .i64 n.at', .string ⟨n.text.toArray⟩, .int .i64 n.n] 46)
 have hBx1 := lt_of_heap g0
 have hTx1 := lt_of_heap q0
 have g0 := fd.keep g0 (fun x => by cases x)
 have q0 := fd.keep q0 (fun x => by cases x)
 have h0 := h0.fr fd
 have F := F.trans0 fd
 generalize (x1.alloc (.cells #[.int .i64 n.k, .int .i64 n.at', .string ⟨n.text.toArray⟩, .int .i64 n.n] 46)).drew = x2 at *
 generalize x1.heap.size = TN at *
 clear fd
 go_wp2_with fail
 refine (now_any P g c ts st t HT.out x2 h0 HE.out).mono ?_
 rintro e x3 ⟨rfl, f3⟩
 have g0 := f3.keep g0 (fun x => by cases x)
 have q0 := f3.keep q0 (fun x => by cases x)
 have q5 := f3.keep q5 (fun x => by cases x)
 have h0 := h0.fr f3
 have F := F.trans0 f3
 have r0 := tok_f0
 have hTN := lt_of_heap q5
 obtain ⟨y0, y1, y2, y3, _⟩ := cells4 q5
 clear f3
 have hk := HK.out
 obtain ⟨⟨m0, m1, m2, m3, m4, m5, m6, m7⟩, j0, j1, j2, j3, j4, j5, j6, j7⟩ := cells8 q0
 have hTx := lt_of_heap q0
 have q1 : (x3.setCell ⟨T, 0, none⟩ (.int .i64 13)).heap[T]? = some (.cells #[.int .i64 13, .int .i64 a, .string ⟨#[]⟩, .int .i64 0, .string ⟨#[]⟩, .slice none 0 0, .slice none 0 0, .slice none 0 0] 27 (0, 0)) := set_at q0 0 _
 have fs := (Fr.refl [T] x3).setCell (p := ⟨T, 0, none⟩) (.inl (by simp)) (.int .i64 13)
 have g0 := fs.keep g0 (by simp; omega)
 have h0 := h0.frL fs (by simp; omega) (by simp; omega)
 have F := F.step fs (fun x hx => .inr (by simp at hx; omega))
 have HQ := Lib.hid q1
 clear q0 q1 fs
 go_wp2_with fail
 clear m0 m1 m2 m3 m4 m5 m6 m7 j0 j1 j2 j3 j4 j5 j6 j7
 have q0 := HQ.out
 clear HQ
 generalize x3.setCell ⟨T, 0, none⟩ (.int .i64 13) = x3n at *
 clear y0 y1 y2 y3 q5 r0 hk
 refine (IH.out.seq P g c st x3n h0 (by have := HN.out; have := h0.inb; omega)).mono ?_
 rintro e x4 ⟨k1, a1, nm1, n1, s1, ls1, args1, arms1, A51, n51, c51, A61, n61, c61, A71, n71, c71, st1, rfl, hx1, hr1, hst1, f1⟩
 have hw1 := lt_of_heap g0
 have hT1 := lt_of_heap q0
 have g0 := f1.keep g0 (by simp; omega)
 have q0 := f1.keep q0 (by simp; omega)
 have F := F.trans f1
 have hs1 := f1.size
 have hxs := lt_of_heap g0
 obtain ⟨⟨m0, m1, m2, m3, m4, m5, m6, m7⟩, j0, j1, j2, j3, j4, j5, j6, j7⟩ := cells8 q0
 have hTx := lt_of_heap q0
 have q1 : (x4.setCell ⟨T, 6, none⟩ (.slice (some ⟨x4.heap.size, 0, none⟩) 1 1)).heap[T]? = some (.cells #[.int .i64 13, .int .i64 a, .string ⟨#[]⟩, .int .i64 0, .string ⟨#[]⟩, .slice none 0 0, .slice (some ⟨x4.heap.size, 0, none⟩) 1 1, .slice none 0 0] 27 (0, 0)) := set_at q0 6 _
 have fs := (Fr.refl [T] x4).setCell (p := ⟨T, 6, none⟩) (.inl (by simp)) (.slice (some ⟨x4.heap.size, 0, none⟩) 1 1)
 have g1 := fs.keep g0 (by simp; omega)
 have h1 := hst1.frL fs (by simp; omega) (by simp; omega)
 have F1 := F.step fs (fun x hx => .inr (by simp at hx; omega))
 have hx1 := hx1.keep (ok' := fun b => B < b ∧ ¬ b = T ∧ ¬ b = P) (Sh.of_fr fs (fun b hb hlt => ⟨by have : x3n.heap.size ≤ b := hb; exact ⟨by omega, by omega, by omega⟩, by have : x3n.heap.size ≤ b := hb; simp; omega⟩))
 have hss : (x4.setCell ⟨T, 6, none⟩ (.slice (some ⟨x4.heap.size, 0, none⟩) 1 1)).heap.size = x4.heap.size := by simp [World.setCell]
 have row := RowG.lit keepsE (T := 27) (size := 8) (ok := fun b => B < b ∧ ¬ b = T ∧ ¬ b = P) hx1 rfl (by rw [hss]; exact ⟨by omega, by omega, by omega⟩)
 rw [hss] at row
 have HQ := Lib.hid (heap_old q1 (.cells #[.int .i64 k1, .int .i64 a1, .string ⟨nm1.toArray⟩, .int .i64 n1, .string ⟨s1.toArray⟩, .slice A51 n51 c51, .slice A61 n61 c61, .slice A71 n71 c71] 27))
 have HG1 := Lib.hid (heap_old g1 (.cells #[.int .i64 k1, .int .i64 a1, .string ⟨nm1.toArray⟩, .int .i64 n1, .string ⟨s1.toArray⟩, .slice A51 n51 c51, .slice A61 n61 c61, .slice A71 n71 c71] 27))
 have HH1 := Lib.hid (h1.fr ((Fr.refl [] (x4.setCell ⟨T, 6, none⟩ (.slice (some ⟨x4.heap.size, 0, none⟩) 1 1))).alloc (.cells #[.int .i64 k1, .int .i64 a1, .string ⟨nm1.toArray⟩, .int .i64 n1, .string ⟨s1.toArray⟩, .slice A51 n51 c51, .slice A61 n61 c61, .slice A71 n71 c71] 27)))
 have HF1 := Lib.hid (F1.alloc (.cells #[.int .i64 k1, .int .i64 a1, .string ⟨nm1.toArray⟩, .int .i64 n1, .string ⟨s1.toArray⟩, .slice A51 n51 c51, .slice A61 n61 c61, .slice A71 n71 c71] 27))
 have ROW1 := Lib.hid row
 clear q0 q1 g0 g1 h1 F1 F fs row hx1 hst1 hss h0
 go_wp2_with fail
 clear m0 m1 m2 m3 m4 m5 m6 m7 j0 j1 j2 j3 j4 j5 j6 j7
 generalize (x4.setCell ⟨T, 6, none⟩ (.slice (some ⟨x4.heap.size, 0, none⟩) 1 1)).alloc (.cells #[.int .i64 k1, .int .i64 a1, .string ⟨nm1.toArray⟩, .int .i64 n1, .string ⟨s1.toArray⟩, .slice A51 n51 c51, .slice A61 n61 c61, .slice A71 n71 c71] 27) = x5 at *
 generalize x4.heap.size = gz at *
 have q0 := HQ.out
 have g0 := HG1.out
 have h0 := HH1.out
 have F := HF1.out
 have row := ROW1.out
 clear HQ HG1 HH1 HF1 ROW1 f1
 obtain ⟨p, hp⟩ := tok_at h0.inb
 refine (must_any [119, 105, 116, 104] P g c ts st1 p hp x5 h0 HE.out).mono ?_
 rintro e y6 ⟨rfl, h0, fm⟩
 have g0 := fm.keep g0 (by simp; omega)
 have q0 := fm.keep q0 (by simp; omega)
 have F := F.trans fm
 have row := RowG.keep (ok' := fun b => B < b ∧ ¬ b = T ∧ ¬ b = P) keepsE row (Sh.of_fr fm (fun b hb hlt => ⟨hb, by simp; exact hb.2.2⟩))
 clear fm
 go_wp2_with fail
 obtain ⟨v, hv⟩ := tok_at h0.inb
 refine (name_any P g c ts (mustS p st1 [119, 105, 116, 104]) v hv y6 h0 HE.out).mono ?_
 rintro e x8 ⟨rfl, h0, fm⟩
 have g0 := fm.keep g0 (by simp; omega)
 have q0 := fm.keep q0 (by simp; omega)
 have F := F.trans fm
 have row := RowG.keep (ok' := fun b => B < b ∧ ¬ b = T ∧ ¬ b = P) keepsE row (Sh.of_fr fm (fun b hb hlt => ⟨hb, by simp; exact hb.2.2⟩))
 obtain ⟨⟨m0, m1, m2, m3, m4, m5, m6, m7⟩, j0, j1, j2, j3, j4, j5, j6, j7⟩ := cells8 q0
 have hTx := lt_of_heap q0
 have q1 : (x8.setCell ⟨T, 2, none⟩ (.string ⟨(nameT v (mustS p st1 [119, 105, 116, 104])).toArray⟩)).heap[T]? = some (.cells #[.int .i64 13, .int .i64 a, .string ⟨(nameT v (mustS p st1 [119, 105, 116, 104])).toArray⟩, .int .i64 0, .string ⟨#[]⟩, .slice none 0 0, .slice (some ⟨gz, 0, none⟩) 1 1, .slice none 0 0] 27 (0, 0)) := set_at q0 2 _
 have fs := (Fr.refl [T] x8).setCell (p := ⟨T, 2, none⟩) (.inl (by simp)) (.string ⟨(nameT v (mustS p st1 [119, 105, 116, 104])).toArray⟩)
 have g0 := fs.keep g0 (by simp; omega)
 have h0 := h0.frL fs (by simp; omega) (by simp; omega)
 have F := F.step fs (fun x hx => .inr (by simp at hx; omega))
 have row := RowG.keep (ok' := fun b => B < b ∧ ¬ b = T ∧ ¬ b = P) keepsE row (Sh.of_fr fs (fun b hb hlt => ⟨hb, by simp; exact hb.2.1⟩))
 have HQ := Lib.hid q1
 clear q0 q1 fs
 go_wp2_with fail
 clear m0 m1 m2 m3 m4 m5 m6 m7 j0 j1 j2 j3 j4 j5 j6 j7
 have q0 := HQ.out
 clear HQ
 generalize x8.setCell ⟨T, 2, none⟩ (.string ⟨(nameT v (mustS p st1 [119, 105, 116, 104])).toArray⟩) = x8n at *
 obtain ⟨q, hq⟩ := tok_at h0.inb
 refine (must_any [61] P g c ts (nameS v (mustS p st1 [119, 105, 116, 104])) q hq x8n h0 HE.out).mono ?_
 rintro e y0 ⟨rfl, h0, fm⟩
 have g0 := fm.keep g0 (by simp; omega)
 have q0 := fm.keep q0 (by simp; omega)
 have F := F.trans fm
 have row := RowG.keep (ok' := fun b => B < b ∧ ¬ b = T ∧ ¬ b = P) keepsE row (Sh.of_fr fm (fun b hb hlt => ⟨hb, by simp; exact hb.2.2⟩))
 clear fm
 obtain ⟨i0, hi, hz0, hz1, hz2⟩ := info_parts infoExpr
 have HI := Lib.hid hi
 have HZ0 := Lib.hid hz0
 have HZ1 := Lib.hid hz1
 have HZ2 := Lib.hid hz2
 clear hi hz0 hz1 hz2
 have hle1 := hr1.le
 have hle2 := mustS_le p st1 [119, 105, 116, 104]
 have hle3 := nameS_le2 v (mustS p st1 [119, 105, 116, 104])
 have hle4 := mustS_le q (nameS v (mustS p st1 [119, 105, 116, 104])) [61]
 have cS := fun W hW => Lib.hid (IH.out.seq P g c (mustS q (nameS v (mustS p st1 [119, 105, 116, 104])) [61]) W hW (by have := HN.out; have := h0.inb; omega))
 obtain ⟨⟨l0, l1, l2, l3, l4, l5, l6, l7⟩, _⟩ := cells8 q0
 have hTwr := lt_of_heap q0
 have ROWH := Lib.hid row
 clear row
 go_wp2_with fail
 refine wp_region_last8 (fun w' => w'.cell? ⟨T, 6, none⟩ = some (.slice (some ⟨gz, 0, none⟩) 1 1)) (by kernel_rfl) (by kernel_rfl) ?hS1021 (fun K hK hHeld => ?hr1021)
 case hS1021 => go_keep
 refine held_take (i := 0) (v := ?v1022) rfl (by kernel_rfl) (by kernel_rfl) (by kernel_rfl) (fun _ _ _ h => h) (Or.inl ⟨by rfl, ?hy1022⟩) (by assumption) ?hr1022
 case hy1022 =>
  intro w' hSw
  (try dsimp only at hSw)
  go_simp
  (try with_reducible rfl)
 (try simp only [Act.put, List.setIfInBounds_toArray, List.set_cons_zero, List.set_cons_succ])
 refine held_take (i := 1) (v := ?v1023) rfl (by kernel_rfl) (by kernel_rfl) (by kernel_rfl) (fun _ _ _ h => h) (Or.inl ⟨by rfl, ?hy1023⟩) (by assumption) ?hr1023
 case hy1023 =>
  intro w' hSw
  (try dsimp only at hSw)
  go_simp
  (try with_reducible rfl)
 (try simp only [Act.put, List.setIfInBounds_toArray, List.set_cons_zero, List.set_cons_succ])
 refine held_take (i := 2) (v := ?v1024) rfl (by kernel_rfl) (by kernel_rfl) (by kernel_rfl) (fun _ _ _ h => h) (Or.inl ⟨by rfl, ?hy1024⟩) (by assumption) ?hr1024
 case hy1024 =>
  intro w' hSw
  (try dsimp only at hSw)
  go_simp
  (try with_reducible rfl)
 (try simp only [Act.put, List.setIfInBounds_toArray, List.set_cons_zero, List.set_cons_succ])
 refine held_step (i := 3) rfl (by kernel_rfl) (fun K3 hK3 => ?hr1025)
 go_simp
 refine ((cS _ (h0.fr (Fr.refl [] y0).drew)).out).mono ?_
 rintro e x8 ⟨k2, a2, nm2, n2, s2, ls2, args2, arms2, A52, n52, c52, A62, n62, c62, A72, n72, c72, st5, rfl, hx2, hr2, hst5, f8⟩
 have hst := hst5
 have Q8 := f8.keep (w := y0.drew) q0 (by simp; omega)
 have hT8 := lt_of_heap Q8
 have ROW9 := RowG.keep (w' := x8.alloc (.cells #[.int .i64 k2, .int .i64 a2, .string ⟨nm2.toArray⟩, .int .i64 n2, .string ⟨s2.toArray⟩, .slice A52 n52 c52, .slice A62 n62 c62, .slice A72 n72 c72] 27)) (ok' := fun b => B < b ∧ ¬ b = T ∧ ¬ b = P) keepsE ROWH.out (Sh.of_fr (((Fr.refl [P] y0).drew.trans f8).alloc _) (fun b hb hlt => ⟨hb, by simp; exact hb.2.2⟩))
 go_simp
 refine hK3.out _ _ ?hS1025 (fun hHeld => ?hq1025)
 case hS1025 => exact (cells8 Q8).1.2.2.2.2.2.2.1
 clear hK3 K3
 (try simp only [Act.put, List.setIfInBounds_toArray, List.set_cons_zero, List.set_cons_succ])
 refine held_step (i := 4) rfl (by kernel_rfl) (fun K4 hK4 => ?hr1026)
 go_simp
 refine hK4.out _ _ ?hS1026 (fun hHeld => ?hq1026)
 case hS1026 => exact cell_of (heap_old Q8 _) 6
 clear hK4 K4
 (try simp only [Act.put, List.setIfInBounds_toArray, List.set_cons_zero, List.set_cons_succ])
 refine held_step (i := 5) rfl (by kernel_rfl) (fun K5 hK5 => ?hr1027)
 refine step_append_fp (by rfl) _ _ 24 (by rfl) 27 i0 _ 8 128 Tryz.underlying24 HI.out HZ0.out HZ1.out HZ2.out rfl (by decide) (.slice (some ⟨gz, 0, none⟩) 1 1) 1 (flatN (fun _ => [.int .i64 k1, .int .i64 a1, .string ⟨nm1.toArray⟩, .int .i64 n1, .string ⟨s1.toArray⟩, .slice A51 n51 c51, .slice A61 n61 c61, .slice A71 n71 c71]) 1) (by rfl) ROW9.own ⟨x8.heap.size, 0, none⟩ 1 1 [.int .i64 k2, .int .i64 a2, .string ⟨nm2.toArray⟩, .int .i64 n2, .string ⟨s2.toArray⟩, .slice A52 n52 c52, .slice A62 n62 c62, .slice A72 n72 c72] (by rfl) rfl (World.news_of_block (heap_new x8 _)) (by simp [Value.oneCell']) (by decide) (by decide) ?_
 intro v9 w9 hown9 hgrow9 hfp9
 obtain ⟨g9, cp9, hv9⟩ : ∃ g cap, v9 = .slice (some ⟨g, 0, none⟩) (2) cap := own_form hown9
 subst hv9
 have Q9 := (hgrow9.block T (lt_of_heap (heap_old Q8 (.cells #[.int .i64 k2, .int .i64 a2, .string ⟨nm2.toArray⟩, .int .i64 n2, .string ⟨s2.toArray⟩, .slice A52 n52 c52, .slice A62 n62 c62, .slice A72 n72 c72] 27))) (fun e => (ROWH.out.blk T e.symm).2.1 rfl)).trans (heap_old Q8 (.cells #[.int .i64 k2, .int .i64 a2, .string ⟨nm2.toArray⟩, .int .i64 n2, .string ⟨s2.toArray⟩, .slice A52 n52 c52, .slice A62 n62 c62, .slice A72 n72 c72] 27))
 have hT9 := lt_of_heap Q9
 obtain ⟨⟨u0, u1, u2, u3, u4, u5, u6, u7⟩, z0, z1, z2, z3, z4, z5, z6, z7⟩ := cells8 Q9
 refine hK5.out _ _ ?hS1027 (fun hHeld => ?hq1027)
 case hS1027 => exact u6
 clear hK5 K5
 (try simp only [Act.put, List.setIfInBounds_toArray, List.set_cons_zero, List.set_cons_succ])
 refine held_take (i := 6) (v := ?v1028) rfl (by kernel_rfl) (by kernel_rfl) (by kernel_rfl) (fun _ _ _ h => h) (Or.inl ⟨by rfl, ?hy1028⟩) (by assumption) ?hr1028
 case hy1028 =>
  intro w' hSw
  (try dsimp only at hSw)
  go_simp
  (try with_reducible rfl)
 (try simp only [Act.put, List.setIfInBounds_toArray, List.set_cons_zero, List.set_cons_succ])
 refine wpAnyH_done (by kernel_rfl) ?hr1029 _
 refine thenLast_run rfl ?hq1029
 go_simp
 refine hK.out _ _ ?hs1029
 clear hK K
 clear l0 l1 l2 l3 l4 l5 l6 l7 u0 u1 u2 u3 u4 u5 u6 u7 z0 z1 z2 z3 z4 z5 z6 z7
 have f8 : Fr [P] y0 x8 := ((Fr.refl [P] y0).drew).trans f8
 have row := ROWH.out
 obtain ⟨F, g0, q0, h0, row, hsh, hnew, hsz⟩ := app_after (fld := 6) (size := 8) keepsE f8 hx2 rfl hst g0 q0 row F (by omega) (by omega) (by omega) (by omega) (by omega) (by omega) (by omega) hown9 hgrow9 hfp9 (VV' := #[.int .i64 13, .int .i64 a, .string ⟨(nameT v (mustS p st1 [119, 105, 116, 104])).toArray⟩, .int .i64 0, .string ⟨#[]⟩, .slice none 0 0, .slice (some ⟨g9, 0, none⟩) 2 cp9, .slice none 0 0]) rfl
 clear ROWH ROW9 Q8 Q9 hown9 hgrow9 hfp9 f8 hst hT8 hT9 hTwr
 generalize w9.setCell ⟨T, 6, none⟩ (.slice (some ⟨g9, 0, none⟩) 2 cp9) = y1 at *
 clear hsh hnew hsz cS
 go_wp2_with fail
 obtain ⟨q2, hq2⟩ := tok_at h0.inb
 refine (must_any [125] P g c ts st5 q2 hq2 y1 h0 HE.out).mono ?_
 rintro e y2 ⟨rfl, h0, fm⟩
 have g0 := fm.keep g0 (by simp; omega)
 have q0 := fm.keep q0 (by simp; omega)
 have F := F.trans fm
 have row := RowG.keep (ok' := fun b => B < b ∧ ¬ b = T ∧ ¬ b = P) keepsE row (Sh.of_fr fm (fun b hb hlt => ⟨hb, by simp; exact hb.2.2⟩))
 clear fm
 have rowE := RowG.keep (ok' := fun b => B < b) keepsE row (Sh.of_fr (Fr.refl [] y2) (fun b hb hlt => ⟨hb.1, fun x => by cases x⟩))
 clear row
 have hBlt := lt_of_heap g0
 have hTlt := lt_of_heap q0
 obtain ⟨⟨l0, l1, l2, l3, l4, l5, l6, l7⟩, _⟩ := cells8 q0
 obtain ⟨⟨u0_, u1, u2, u3, u4, u5, u6, u7⟩, z0, z1, z2, z3, z4, z5, z6, z7⟩ := cells8 g0
 have HG := Lib.hid (st8_heap g0 (.int .i64 13) (.int .i64 a) (.string ⟨(nameT v (mustS p st1 [119, 105, 116, 104])).toArray⟩) (.int .i64 0) (.string ⟨#[]⟩) (.slice none 0 0) (.slice (some ⟨g9, 0, none⟩) 2 cp9) (.slice none 0 0))
 have HF := Lib.hid (F.step (st8_fr y2 B (.int .i64 13) (.int .i64 a) (.string ⟨(nameT v (mustS p st1 [119, 105, 116, 104])).toArray⟩) (.int .i64 0) (.string ⟨#[]⟩) (.slice none 0 0) (.slice (some ⟨g9, 0, none⟩) 2 cp9) (.slice none 0 0)) (fun x hx => .inr (by simp at hx; omega)))
 have HP := Lib.hid (h0.frL (st8_fr y2 B (.int .i64 13) (.int .i64 a) (.string ⟨(nameT v (mustS p st1 [119, 105, 116, 104])).toArray⟩) (.int .i64 0) (.string ⟨#[]⟩) (.slice none 0 0) (.slice (some ⟨g9, 0, none⟩) 2 cp9) (.slice none 0 0)) (by simp; omega) (by simp; omega))
 have HRW0 := Lib.hid (RowG.keep (ok' := fun b => B ≤ b) keepsE rowE (Sh.of_fr (st8_fr y2 B (.int .i64 13) (.int .i64 a) (.string ⟨(nameT v (mustS p st1 [119, 105, 116, 104])).toArray⟩) (.int .i64 0) (.string ⟨#[]⟩) (.slice none 0 0) (.slice (some ⟨g9, 0, none⟩) 2 cp9) (.slice none 0 0)) (fun b hb hlt => ⟨by omega, by simp; omega⟩)))
 unfold st8 at HG HF HP HRW0
 go_wp2_with fail
 generalize (((((((y2.setCell ⟨B, 0, none⟩ (.int .i64 13)).setCell ⟨B, 1, none⟩ (.int .i64 a)).setCell ⟨B, 2, none⟩ (.string ⟨(nameT v (mustS p st1 [119, 105, 116, 104])).toArray⟩)).setCell ⟨B, 3, none⟩ (.int .i64 0)).setCell ⟨B, 4, none⟩ (.string ⟨#[]⟩)).setCell ⟨B, 5, none⟩ (.slice none 0 0)).setCell ⟨B, 6, none⟩ (.slice (some ⟨g9, 0, none⟩) 2 cp9)).setCell ⟨B, 7, none⟩ (.slice none 0 0) = Z at HG HF HP HRW0 ⊢
 obtain ⟨⟨d0, d1, d2, d3, d4, d5, d6, d7⟩, _⟩ := cells8 HG.out
 have hxx := ExprAt.of_rows (w := Z) (ok := fun b => B ≤ b) (k := 13) (a := a) (nm := nameT v (mustS p st1 [119, 105, 116, 104])) (n := 0) (s := []) (c5 := fun _ => []) RowG.nil_ HRW0.out (c7 := fun _ => []) RowG.nil_
 refine bodyPost_ret (v := .agg #[.int .i64 13, .int .i64 a, .string ⟨(nameT v (mustS p st1 [119, 105, 116, 104])).toArray⟩, .int .i64 0, .string ⟨#[]⟩, .slice none 0 0, .slice (some ⟨g9, 0, none⟩) 2 cp9, .slice none 0 0]) ?_ rfl ?_
 ·simp [results, Tryz.f112, go_sem, d0, d1, d2, d3, d4, d5, d6, d7]
 ·exact ⟨_, _, _, _, _, _, _, _, _, _, _, _, _, _, _, _, _, _, rfl, hxx.keep (Sh.of_fr (Fr.refl [] Z) (fun b hb hlt => ⟨by omega, fun x => by cases x⟩)), by unfold body; exact .may_no HT.out HB.out (.els (.ahead (by unfold aheadT; rw [← HJ.out]; exact HN_.out) (.look HT.out (by rw [if_neg (by rw [HK.out]; simp)]; exact .callE hr1 (.must_ hp (.name_ hv (.must_ hq (.callE hr2 (.must_ hq2 .retE))))))))), HP.out, HF.out⟩
end Go.Proofs.YtpjkfeehgookkaaGreatDoor
namespace Go.Proofs.YtpjkfeehgookkaaGreatDoor
open Go.RowKit
attribute [local go_sem ↓] Go.wp_at_zero Go.wp_at_succ
set_option maxHeartbeats 16000000 in
set_option maxRecDepth 100000 in
theorem braces_with2 (ts : List Tok) (hE : EndOk ts) (N : Nat) (ih : AllE ts N) (P g c : Nat) (st : St) (a : Int) (w : World) (h : PSt P g c ts st w) (hm : 16 * (ts.length - st.i) + 14 < N + 1) (t : Tok) (ht : ts[st.i]? = some t) (hb : isB t st.ok [[125]] = false) (n : Tok) (J : Nat) (hj : J = min (st.i + 1) (ts.length - 1)) (hn : ts[J]? = some n) (hk : (t.k == 1) = true) (hk7 : (n.k == 7) = false) : Calls Tryz.prog 112 #[.pointer (some ⟨P, 0, none⟩), .agg #[.int .i64 0, .int .i64 a, .string ⟨#[]⟩, .int .i64 0, .string ⟨#[]⟩, .slice none 0 0, .slice none 0 0, .slice none 0 0]] w (ExOk P g c ts st (body (.braces a)) w) := by
 have HB := Lib.hid hb
 clear hb
 have HJ := Lib.hid hj
 clear hj
 have HN_ := Lib.hid hn
 clear hn
 have HK := Lib.hid hk
 clear hk
 have HK7 := Lib.hid hk7
 clear hk7
 have HT := Lib.hid ht
 clear ht
 have IH := Lib.hid ih
 clear ih
 have H := Lib.hid h
 have hP := lt_of_heap h.blk
 have hgl := h.lt
 have hin := h.inb
 have HN := Lib.hid hm
 have HE := Lib.hid hE
 clear h hm hE
 go_enter Tryz.func112, Tryz.ntmps112
 go_wp2_with fail
 have f0 : Fr [] w ((w.alloc (.cells #[.int .i64 0, .int .i64 a, .string ⟨#[]⟩, .int .i64 0, .string ⟨#[]⟩, .slice none 0 0, .slice none 0 0, .slice none 0 0] 27)).alloc (.cells #[.int .i64 0, .int .i64 0, .string ⟨#[]⟩, .int .i64 0, .string ⟨#[]⟩, .slice none 0 0, .slice none 0 0, .slice none 0 0] 27)) := ((Fr.refl [] w).alloc _).alloc _
 have q0 := heap_old (heap_new w (.cells #[.int .i64 0, .int .i64 a, .string ⟨#[]⟩, .int .i64 0, .string ⟨#[]⟩, .slice none 0 0, .slice none 0 0, .slice none 0 0] 27)) (.cells #[.int .i64 0, .int .i64 0, .string ⟨#[]⟩, .int .i64 0, .string ⟨#[]⟩, .slice none 0 0, .slice none 0 0, .slice none 0 0] 27)
 have g0 := heap_new (w.alloc (.cells #[.int .i64 0, .int .i64 a, .string ⟨#[]⟩, .int .i64 0, .string ⟨#[]⟩, .slice none 0 0, .slice none 0 0, .slice none 0 0] 27)) (.cells #[.int .i64 0, .int .i64 0, .string ⟨#[]⟩, .int .i64 0, .string ⟨#[]⟩, .slice none 0 0, .slice none 0 0, .slice none 0 0] 27)
 have hsz : (w.alloc (.cells #[.int .i64 0, .int .i64 a, .string ⟨#[]⟩, .int .i64 0, .string ⟨#[]⟩, .slice none 0 0, .slice none 0 0, .slice none 0 0] 27)).heap.size = w.heap.size + 1 := by simp
 rw [hsz] at g0
 clear hsz
 have h0 := H.out.fr f0
 have F := f0.mono (L' := [P]) (fun x hx => by cases hx)
 generalize (w.alloc (.cells #[.int .i64 0, .int .i64 a, .string ⟨#[]⟩, .int .i64 0, .string ⟨#[]⟩, .slice none 0 0, .slice none 0 0, .slice none 0 0] 27)).alloc (.cells #[.int .i64 0, .int .i64 0, .string ⟨#[]⟩, .int .i64 0, .string ⟨#[]⟩, .slice none 0 0, .slice none 0 0, .slice none 0 0] 27) = w1 at *
 generalize hT : w.heap.size = T at *
 generalize hB : T + 1 = B at *
 have hPT : P < T := hP
 have hgT : g < T := hgl
 clear f0 hP hgl
 refine (may_no [125] P g c ts st t HT.out HB.out w1 h0 HE.out).mono ?_
 rintro e x1 ⟨rfl, fm⟩
 have g0 := fm.keep g0 (fun x => by cases x)
 have q0 := fm.keep q0 (fun x => by cases x)
 have F := F.trans0 fm
 have h0 := h0.fr fm
 clear fm
 go_wp2_with fail
 obtain ⟨p0, p1, p2, _⟩ := cells3 h0.blk
 have a0 := h0.rt.c0 _ _ HN_.out
 have a1 := h0.rt.c1 _ _ HN_.out
 have a2 := h0.rt.c2 _ _ HN_.out
 have a3 := h0.rt.c3 _ _ HN_.out
 have hPx := lt_of_heap h0.blk
 have hgx := h0.lt
 have hts := HE.out.1
 have hmin : min ((st.i : Int) + 1) ((ts.length - 1 : Nat) : Int) = (J : Int) := by have := HJ.out; omega
 have hJ1 : (0 : Int) ≤ (J : Int) := by omega
 have hJ2 : (J : Int) < (ts.length : Int) := by have := HJ.out; omega
 have w1q : IntKind.i64.wrap ((st.i : Int) + 1) = ((st.i + 1 : Nat) : Int) := (IntWalk.i64_in _ (by omega)).trans (by omega)
 have w2q : IntKind.i64.wrap ((ts.length : Int) - 1) = ((ts.length - 1 : Nat) : Int) := (IntWalk.i64_in _ (by omega)).trans (by omega)
 refine wp_region_last20 (fun w' => w'.cell? ⟨P, 0, none⟩ = some (.slice (some ⟨g, 0, none⟩) ts.length c) ∧ w'.cell? ⟨P, 1, none⟩ = some (.int .i64 (st.i : Nat)) ∧ w'.cell? ⟨g, J * 4, none⟩ = some (.int .i64 n.k) ∧ w'.cell? ⟨g, J * 4 + 1, none⟩ = some (.int .i64 n.at') ∧ w'.cell? ⟨g, J * 4 + 2, none⟩ = some (.string ⟨n.text.toArray⟩) ∧ w'.cell? ⟨g, J * 4 + 3, none⟩ = some (.int .i64 n.n)) (by kernel_rfl) (by kernel_rfl) ?hS1030 (fun K hK hHeld => ?hr1030)
 case hS1030 => go_keep
 refine held_take (i := 0) (v := ?v1031) rfl (by kernel_rfl) (by kernel_rfl) (by kernel_rfl) (fun _ _ _ h => h) (Or.inl ⟨by rfl, ?hy1031⟩) (by assumption) ?hr1031
 case hy1031 =>
  intro w' hSw
  (try dsimp only at hSw)
  go_simp
  (try with_reducible rfl)
 (try simp only [Act.put, List.setIfInBounds_toArray, List.set_cons_zero, List.set_cons_succ])
 refine held_take (i := 1) (v := ?v1032) rfl (by kernel_rfl) (by kernel_rfl) (by kernel_rfl) (fun _ _ _ h => h) (Or.inl ⟨by rfl, ?hy1032⟩) (by assumption) ?hr1032
 case hy1032 =>
  intro w' hSw
  (try dsimp only at hSw)
  go_simp
  (try with_reducible rfl)
 (try simp only [Act.put, List.setIfInBounds_toArray, List.set_cons_zero, List.set_cons_succ])
 refine held_take (i := 2) (v := ?v1033) rfl (by kernel_rfl) (by kernel_rfl) (by kernel_rfl) (fun _ _ _ h => h) (Or.inl ⟨by rfl, ?hy1033⟩) (by assumption) ?hr1033
 case hy1033 =>
  intro w' hSw
  (try dsimp only at hSw)
  go_simp
  (try with_reducible rfl)
 (try simp only [Act.put, List.setIfInBounds_toArray, List.set_cons_zero, List.set_cons_succ])
 refine held_take (i := 3) (v := ?v1034) rfl (by kernel_rfl) (by kernel_rfl) (by kernel_rfl) (fun _ _ _ h => h) (Or.inl ⟨by rfl, ?hy1034⟩) (by assumption) ?hr1034
 case hy1034 =>
  intro w' hSw
  (try dsimp only at hSw)
  go_simp
  (try with_reducible rfl)
 (try simp only [Act.put, List.setIfInBounds_toArray, List.set_cons_zero, List.set_cons_succ])
 refine held_take (i := 4) (v := ?v1035) rfl (by kernel_rfl) (by kernel_rfl) (by kernel_rfl) (fun _ _ _ h => h) (Or.inl ⟨by rfl, ?hy1035⟩) (by assumption) ?hr1035
 case hy1035 =>
  intro w' hSw
  (try dsimp only at hSw)
  go_simp
  (try with_reducible rfl)
 (try simp only [Act.put, List.setIfInBounds_toArray, List.set_cons_zero, List.set_cons_succ])
 refine held_take (i := 5) (v := ?v1036) rfl (by kernel_rfl) (by kernel_rfl) (by kernel_rfl) (fun _ _ _ h => h) (Or.inl ⟨by rfl, ?hy1036⟩) (by assumption) ?hr1036
 case hy1036 =>
  intro w' hSw
  (try dsimp only at hSw)
  go_simp
  (try with_reducible rfl)
 (try simp only [Act.put, List.setIfInBounds_toArray, List.set_cons_zero, List.set_cons_succ])
 refine held_take (i := 6) (v := ?v1037) rfl (by kernel_rfl) (by kernel_rfl) (by kernel_rfl) (fun _ _ _ h => h) (Or.inl ⟨by rfl, ?hy1037⟩) (by assumption) ?hr1037
 case hy1037 =>
  intro w' hSw
  (try dsimp only at hSw)
  go_simp
  (try with_reducible rfl)
 (try simp only [Act.put, List.setIfInBounds_toArray, List.set_cons_zero, List.set_cons_succ])
 refine held_take (i := 7) (v := ?v1038) rfl (by kernel_rfl) (by kernel_rfl) (by kernel_rfl) (fun _ _ _ h => h) (Or.inl ⟨by rfl, ?hy1038⟩) (by assumption) ?hr1038
 case hy1038 =>
  intro w' hSw
  (try dsimp only at hSw)
  go_simp
  (try with_reducible rfl)
 (try simp only [Act.put, List.setIfInBounds_toArray, List.set_cons_zero, List.set_cons_succ])
 refine held_take (i := 8) (v := ?v1039) rfl (by kernel_rfl) (by kernel_rfl) (by kernel_rfl) (fun _ _ _ h => h) (Or.inl ⟨by rfl, ?hy1039⟩) (by assumption) ?hr1039
 case hy1039 =>
  intro w' hSw
  (try dsimp only at hSw)
  go_simp
  (try with_reducible rfl)
 (try simp only [Act.put, List.setIfInBounds_toArray, List.set_cons_zero, List.set_cons_succ])
 refine held_take (i := 9) (v := ?v1040) rfl (by kernel_rfl) (by kernel_rfl) (by kernel_rfl) (fun _ _ _ h => h) (Or.inl ⟨by rfl, ?hy1040⟩) (by assumption) ?hr1040
 case hy1040 =>
  intro w' hSw
  (try dsimp only at hSw)
  go_simp
  (try with_reducible rfl)
 (try simp only [Act.put, List.setIfInBounds_toArray, List.set_cons_zero, List.set_cons_succ])
 refine held_take (i := 10) (v := ?v1041) rfl (by kernel_rfl) (by kernel_rfl) (by kernel_rfl) (fun _ _ _ h => h) (Or.inl ⟨by rfl, ?hy1041⟩) (by assumption) ?hr1041
 case hy1041 =>
  intro w' hSw
  (try dsimp only at hSw)
  go_simp
  (try with_reducible rfl)
 (try simp only [Act.put, List.setIfInBounds_toArray, List.set_cons_zero, List.set_cons_succ])
 refine held_take (i := 11) (v := ?v1042) rfl (by kernel_rfl) (by kernel_rfl) (by kernel_rfl) (fun _ _ _ h => h) (Or.inl ⟨by rfl, ?hy1042⟩) (by assumption) ?hr1042
 case hy1042 =>
  intro w' hSw
  (try dsimp only at hSw)
  go_simp
  (try with_reducible rfl)
 (try simp only [Act.put, List.setIfInBounds_toArray, List.set_cons_zero, List.set_cons_succ])
 refine held_take (i := 12) (v := ?v1043) rfl (by kernel_rfl) (by kernel_rfl) (by kernel_rfl) (fun _ _ _ h => h) (Or.inl ⟨by rfl, ?hy1043⟩) (by assumption) ?hr1043
 case hy1043 =>
  intro w' hSw
  (try dsimp only at hSw)
  go_simp
  (try with_reducible rfl)
 (try simp only [Act.put, List.setIfInBounds_toArray, List.set_cons_zero, List.set_cons_succ])
 refine held_take (i := 13) (v := ?v1044) rfl (by kernel_rfl) (by kernel_rfl) (by kernel_rfl) (fun _ _ _ h => h) (Or.inl ⟨by rfl, ?hy1044⟩) (by assumption) ?hr1044
 case hy1044 =>
  intro w' hSw
  (try dsimp only at hSw)
  go_simp
  (try with_reducible rfl)
 (try simp only [Act.put, List.setIfInBounds_toArray, List.set_cons_zero, List.set_cons_succ])
 refine held_take (i := 14) (v := ?v1045) rfl (by kernel_rfl) (by kernel_rfl) (by kernel_rfl) (fun _ _ _ h => h) (Or.inl ⟨by rfl, ?hy1045⟩) (by assumption) ?hr1045
 case hy1045 =>
  intro w' hSw
  (try dsimp only at hSw)
  go_simp
  (try with_reducible rfl)
 (try simp only [Act.put, List.setIfInBounds_toArray, List.set_cons_zero, List.set_cons_succ])
 refine held_take (i := 15) (v := ?v1046) rfl (by kernel_rfl) (by kernel_rfl) (by kernel_rfl) (fun _ _ _ h => h) (Or.inl ⟨by rfl, ?hy1046⟩) (by assumption) ?hr1046
 case hy1046 =>
  intro w' hSw
  (try dsimp only at hSw)
  go_simp
  (try with_reducible rfl)
 (try simp only [Act.put, List.setIfInBounds_toArray, List.set_cons_zero, List.set_cons_succ])
 refine held_take (i := 16) (v := ?v1047) rfl (by kernel_rfl) (by kernel_rfl) (by kernel_rfl) (fun _ _ _ h => h) (Or.inl ⟨by rfl, ?hy1047⟩) (by assumption) ?hr1047
 case hy1047 =>
  intro w' hSw
  (try dsimp only at hSw)
  go_simp
  (try with_reducible rfl)
 (try simp only [Act.put, List.setIfInBounds_toArray, List.set_cons_zero, List.set_cons_succ])
 refine held_take (i := 17) (v := ?v1048) rfl (by kernel_rfl) (by kernel_rfl) (by kernel_rfl) (fun _ _ _ h => h) (Or.inl ⟨by rfl, ?hy1048⟩) (by assumption) ?hr1048
 case hy1048 =>
  intro w' hSw
  (try dsimp only at hSw)
  go_simp
  (try with_reducible rfl)
 (try simp only [Act.put, List.setIfInBounds_toArray, List.set_cons_zero, List.set_cons_succ])
 refine held_step (i := 18) rfl (by kernel_rfl) (fun K18 hK18 => ?hr1049)
 go_simp
 refine hK18.out _ _ ?hS1049 (fun hHeld => ?hq1049)
 case hS1049 => go_keep
 clear hK18 K18
 (try simp only [Act.put, List.setIfInBounds_toArray, List.set_cons_zero, List.set_cons_succ])
 refine wpAnyH_done (by kernel_rfl) ?hr1050 _
 refine thenLast_run rfl ?hq1050
 go_simp
 refine hK.out _ _ ?hs1050
 clear hK K
 clear p0 p1 p2 a0 a1 a2 a3 hHeld hmin hJ1 hJ2 w1q w2q
 have fd : Fr [] x1 ((x1.alloc (.cells #[.int .i64 n.k, .int .i64 n.at', .string ⟨n.text.toArray⟩, .int .i64 n.n] 46)).drew) := ((Fr.refl [] x1).alloc _).drew
 have q5 : ((x1.alloc (.cells #[.int .i64 n.k, .int .i64 n.at', .string ⟨n.text.toArray⟩, .int .i64 n.n] 46)).drew).heap[x1.heap.size]? = some (.cells #[.int .i64 n.k, .int .i64 n.at', .string ⟨n.text.toArray⟩, .int .i64 n.n] 46 (0, 0)) := heap_new x1 (.cells #[.int .i64 n.k, .int .i64 n.at', .string ⟨n.text.toArray⟩, .int .i64 n.n] 46)
 have hBx1 := lt_of_heap g0
 have hTx1 := lt_of_heap q0
 have g0 := fd.keep g0 (fun x => by cases x)
 have q0 := fd.keep q0 (fun x => by cases x)
 have h0 := h0.fr fd
 have F := F.trans0 fd
 generalize (x1.alloc (.cells #[.int .i64 n.k, .int .i64 n.at', .string ⟨n.text.toArray⟩, .int .i64 n.n] 46)).drew = x2 at *
 generalize x1.heap.size = TN at *
 clear fd
 go_wp2_with fail
 refine (now_any P g c ts st t HT.out x2 h0 HE.out).mono ?_
 rintro e x3 ⟨rfl, f3⟩
 have g0 := f3.keep g0 (fun x => by cases x)
 have q0 := f3.keep q0 (fun x => by cases x)
 have q5 := f3.keep q5 (fun x => by cases x)
 have h0 := h0.fr f3
 have F := F.trans0 f3
 have r0 := tok_f0
 have hTN := lt_of_heap q5
 obtain ⟨y0, y1, y2, y3, _⟩ := cells4 q5
 clear f3
 have hk := HK.out
 have hk7 := HK7.out
 obtain ⟨⟨m0, m1, m2, m3, m4, m5, m6, m7⟩, j0, j1, j2, j3, j4, j5, j6, j7⟩ := cells8 q0
 have hTx := lt_of_heap q0
 have q1 : (x3.setCell ⟨T, 0, none⟩ (.int .i64 13)).heap[T]? = some (.cells #[.int .i64 13, .int .i64 a, .string ⟨#[]⟩, .int .i64 0, .string ⟨#[]⟩, .slice none 0 0, .slice none 0 0, .slice none 0 0] 27 (0, 0)) := set_at q0 0 _
 have fs := (Fr.refl [T] x3).setCell (p := ⟨T, 0, none⟩) (.inl (by simp)) (.int .i64 13)
 have g0 := fs.keep g0 (by simp; omega)
 have h0 := h0.frL fs (by simp; omega) (by simp; omega)
 have F := F.step fs (fun x hx => .inr (by simp at hx; omega))
 have HQ := Lib.hid q1
 clear q0 q1 fs
 go_wp2_with fail
 clear m0 m1 m2 m3 m4 m5 m6 m7 j0 j1 j2 j3 j4 j5 j6 j7
 have q0 := HQ.out
 clear HQ
 generalize x3.setCell ⟨T, 0, none⟩ (.int .i64 13) = x3n at *
 clear y0 y1 y2 y3 q5 r0 hk hk7
 refine (IH.out.seq P g c st x3n h0 (by have := HN.out; have := h0.inb; omega)).mono ?_
 rintro e x4 ⟨k1, a1, nm1, n1, s1, ls1, args1, arms1, A51, n51, c51, A61, n61, c61, A71, n71, c71, st1, rfl, hx1, hr1, hst1, f1⟩
 have hw1 := lt_of_heap g0
 have hT1 := lt_of_heap q0
 have g0 := f1.keep g0 (by simp; omega)
 have q0 := f1.keep q0 (by simp; omega)
 have F := F.trans f1
 have hs1 := f1.size
 have hxs := lt_of_heap g0
 obtain ⟨⟨m0, m1, m2, m3, m4, m5, m6, m7⟩, j0, j1, j2, j3, j4, j5, j6, j7⟩ := cells8 q0
 have hTx := lt_of_heap q0
 have q1 : (x4.setCell ⟨T, 6, none⟩ (.slice (some ⟨x4.heap.size, 0, none⟩) 1 1)).heap[T]? = some (.cells #[.int .i64 13, .int .i64 a, .string ⟨#[]⟩, .int .i64 0, .string ⟨#[]⟩, .slice none 0 0, .slice (some ⟨x4.heap.size, 0, none⟩) 1 1, .slice none 0 0] 27 (0, 0)) := set_at q0 6 _
 have fs := (Fr.refl [T] x4).setCell (p := ⟨T, 6, none⟩) (.inl (by simp)) (.slice (some ⟨x4.heap.size, 0, none⟩) 1 1)
 have g1 := fs.keep g0 (by simp; omega)
 have h1 := hst1.frL fs (by simp; omega) (by simp; omega)
 have F1 := F.step fs (fun x hx => .inr (by simp at hx; omega))
 have hx1 := hx1.keep (ok' := fun b => B < b ∧ ¬ b = T ∧ ¬ b = P) (Sh.of_fr fs (fun b hb hlt => ⟨by have : x3n.heap.size ≤ b := hb; exact ⟨by omega, by omega, by omega⟩, by have : x3n.heap.size ≤ b := hb; simp; omega⟩))
 have hss : (x4.setCell ⟨T, 6, none⟩ (.slice (some ⟨x4.heap.size, 0, none⟩) 1 1)).heap.size = x4.heap.size := by simp [World.setCell]
 have row := RowG.lit keepsE (T := 27) (size := 8) (ok := fun b => B < b ∧ ¬ b = T ∧ ¬ b = P) hx1 rfl (by rw [hss]; exact ⟨by omega, by omega, by omega⟩)
 rw [hss] at row
 have HQ := Lib.hid (heap_old q1 (.cells #[.int .i64 k1, .int .i64 a1, .string ⟨nm1.toArray⟩, .int .i64 n1, .string ⟨s1.toArray⟩, .slice A51 n51 c51, .slice A61 n61 c61, .slice A71 n71 c71] 27))
 have HG1 := Lib.hid (heap_old g1 (.cells #[.int .i64 k1, .int .i64 a1, .string ⟨nm1.toArray⟩, .int .i64 n1, .string ⟨s1.toArray⟩, .slice A51 n51 c51, .slice A61 n61 c61, .slice A71 n71 c71] 27))
 have HH1 := Lib.hid (h1.fr ((Fr.refl [] (x4.setCell ⟨T, 6, none⟩ (.slice (some ⟨x4.heap.size, 0, none⟩) 1 1))).alloc (.cells #[.int .i64 k1, .int .i64 a1, .string ⟨nm1.toArray⟩, .int .i64 n1, .string ⟨s1.toArray⟩, .slice A51 n51 c51, .slice A61 n61 c61, .slice A71 n71 c71] 27)))
 have HF1 := Lib.hid (F1.alloc (.cells #[.int .i64 k1, .int .i64 a1, .string ⟨nm1.toArray⟩, .int .i64 n1, .string ⟨s1.toArray⟩, .slice A51 n51 c51, .slice A61 n61 c61, .slice A71 n71 c71] 27))
 have ROW1 := Lib.hid row
 clear q0 q1 g0 g1 h1 F1 F fs row hx1 hst1 hss h0
 go_wp2_with fail
 clear m0 m1 m2 m3 m4 m5 m6 m7 j0 j1 j2 j3 j4 j5 j6 j7
 generalize (x4.setCell ⟨T, 6, none⟩ (.slice (some ⟨x4.heap.size, 0, none⟩) 1 1)).alloc (.cells #[.int .i64 k1, .int .i64 a1, .string ⟨nm1.toArray⟩, .int .i64 n1, .string ⟨s1.toArray⟩, .slice A51 n51 c51, .slice A61 n61 c61, .slice A71 n71 c71] 27) = x5 at *
 generalize x4.heap.size = gz at *
 have q0 := HQ.out
 have g0 := HG1.out
 have h0 := HH1.out
 have F := HF1.out
 have row := ROW1.out
 clear HQ HG1 HH1 HF1 ROW1 f1
 obtain ⟨p, hp⟩ := tok_at h0.inb
 refine (must_any [119, 105, 116, 104] P g c ts st1 p hp x5 h0 HE.out).mono ?_
 rintro e y6 ⟨rfl, h0, fm⟩
 have g0 := fm.keep g0 (by simp; omega)
 have q0 := fm.keep q0 (by simp; omega)
 have F := F.trans fm
 have row := RowG.keep (ok' := fun b => B < b ∧ ¬ b = T ∧ ¬ b = P) keepsE row (Sh.of_fr fm (fun b hb hlt => ⟨hb, by simp; exact hb.2.2⟩))
 clear fm
 go_wp2_with fail
 obtain ⟨v, hv⟩ := tok_at h0.inb
 refine (name_any P g c ts (mustS p st1 [119, 105, 116, 104]) v hv y6 h0 HE.out).mono ?_
 rintro e x8 ⟨rfl, h0, fm⟩
 have g0 := fm.keep g0 (by simp; omega)
 have q0 := fm.keep q0 (by simp; omega)
 have F := F.trans fm
 have row := RowG.keep (ok' := fun b => B < b ∧ ¬ b = T ∧ ¬ b = P) keepsE row (Sh.of_fr fm (fun b hb hlt => ⟨hb, by simp; exact hb.2.2⟩))
 obtain ⟨⟨m0, m1, m2, m3, m4, m5, m6, m7⟩, j0, j1, j2, j3, j4, j5, j6, j7⟩ := cells8 q0
 have hTx := lt_of_heap q0
 have q1 : (x8.setCell ⟨T, 2, none⟩ (.string ⟨(nameT v (mustS p st1 [119, 105, 116, 104])).toArray⟩)).heap[T]? = some (.cells #[.int .i64 13, .int .i64 a, .string ⟨(nameT v (mustS p st1 [119, 105, 116, 104])).toArray⟩, .int .i64 0, .string ⟨#[]⟩, .slice none 0 0, .slice (some ⟨gz, 0, none⟩) 1 1, .slice none 0 0] 27 (0, 0)) := set_at q0 2 _
 have fs := (Fr.refl [T] x8).setCell (p := ⟨T, 2, none⟩) (.inl (by simp)) (.string ⟨(nameT v (mustS p st1 [119, 105, 116, 104])).toArray⟩)
 have g0 := fs.keep g0 (by simp; omega)
 have h0 := h0.frL fs (by simp; omega) (by simp; omega)
 have F := F.step fs (fun x hx => .inr (by simp at hx; omega))
 have row := RowG.keep (ok' := fun b => B < b ∧ ¬ b = T ∧ ¬ b = P) keepsE row (Sh.of_fr fs (fun b hb hlt => ⟨hb, by simp; exact hb.2.1⟩))
 have HQ := Lib.hid q1
 clear q0 q1 fs
 go_wp2_with fail
 clear m0 m1 m2 m3 m4 m5 m6 m7 j0 j1 j2 j3 j4 j5 j6 j7
 have q0 := HQ.out
 clear HQ
 generalize x8.setCell ⟨T, 2, none⟩ (.string ⟨(nameT v (mustS p st1 [119, 105, 116, 104])).toArray⟩) = x8n at *
 obtain ⟨q, hq⟩ := tok_at h0.inb
 refine (must_any [61] P g c ts (nameS v (mustS p st1 [119, 105, 116, 104])) q hq x8n h0 HE.out).mono ?_
 rintro e y0 ⟨rfl, h0, fm⟩
 have g0 := fm.keep g0 (by simp; omega)
 have q0 := fm.keep q0 (by simp; omega)
 have F := F.trans fm
 have row := RowG.keep (ok' := fun b => B < b ∧ ¬ b = T ∧ ¬ b = P) keepsE row (Sh.of_fr fm (fun b hb hlt => ⟨hb, by simp; exact hb.2.2⟩))
 clear fm
 obtain ⟨i0, hi, hz0, hz1, hz2⟩ := info_parts infoExpr
 have HI := Lib.hid hi
 have HZ0 := Lib.hid hz0
 have HZ1 := Lib.hid hz1
 have HZ2 := Lib.hid hz2
 clear hi hz0 hz1 hz2
 have hle1 := hr1.le
 have hle2 := mustS_le p st1 [119, 105, 116, 104]
 have hle3 := nameS_le2 v (mustS p st1 [119, 105, 116, 104])
 have hle4 := mustS_le q (nameS v (mustS p st1 [119, 105, 116, 104])) [61]
 have cS := fun W hW => Lib.hid (IH.out.seq P g c (mustS q (nameS v (mustS p st1 [119, 105, 116, 104])) [61]) W hW (by have := HN.out; have := h0.inb; omega))
 obtain ⟨⟨l0, l1, l2, l3, l4, l5, l6, l7⟩, _⟩ := cells8 q0
 have hTwr := lt_of_heap q0
 have ROWH := Lib.hid row
 clear row
 go_wp2_with fail
 refine wp_region_last8 (fun w' => w'.cell? ⟨T, 6, none⟩ = some (.slice (some ⟨gz, 0, none⟩) 1 1)) (by kernel_rfl) (by kernel_rfl) ?hS1051 (fun K hK hHeld => ?hr1051)
 case hS1051 => go_keep
 refine held_take (i := 0) (v := ?v1052) rfl (by kernel_rfl) (by kernel_rfl) (by kernel_rfl) (fun _ _ _ h => h) (Or.inl ⟨by rfl, ?hy1052⟩) (by assumption) ?hr1052
 case hy1052 =>
  intro w' hSw
  (try dsimp only at hSw)
  go_simp
  (try with_reducible rfl)
 (try simp only [Act.put, List.setIfInBounds_toArray, List.set_cons_zero, List.set_cons_succ])
 refine held_take (i := 1) (v := ?v1053) rfl (by kernel_rfl) (by kernel_rfl) (by kernel_rfl) (fun _ _ _ h => h) (Or.inl ⟨by rfl, ?hy1053⟩) (by assumption) ?hr1053
 case hy1053 =>
  intro w' hSw
  (try dsimp only at hSw)
  go_simp
  (try with_reducible rfl)
 (try simp only [Act.put, List.setIfInBounds_toArray, List.set_cons_zero, List.set_cons_succ])
 refine held_take (i := 2) (v := ?v1054) rfl (by kernel_rfl) (by kernel_rfl) (by kernel_rfl) (fun _ _ _ h => h) (Or.inl ⟨by rfl, ?hy1054⟩) (by assumption) ?hr1054
 case hy1054 =>
  intro w' hSw
  (try dsimp only at hSw)
  go_simp
  (try with_reducible rfl)
 (try simp only [Act.put, List.setIfInBounds_toArray, List.set_cons_zero, List.set_cons_succ])
 refine held_step (i := 3) rfl (by kernel_rfl) (fun K3 hK3 => ?hr1055)
 go_simp
 refine ((cS _ (h0.fr (Fr.refl [] y0).drew)).out).mono ?_
 rintro e x8 ⟨k2, a2, nm2, n2, s2, ls2, args2, arms2, A52, n52, c52, A62, n62, c62, A72, n72, c72, st5, rfl, hx2, hr2, hst5, f8⟩
 have hst := hst5
 have Q8 := f8.keep (w := y0.drew) q0 (by simp; omega)
 have hT8 := lt_of_heap Q8
 have ROW9 := RowG.keep (w' := x8.alloc (.cells #[.int .i64 k2, .int .i64 a2, .string ⟨nm2.toArray⟩, .int .i64 n2, .string ⟨s2.toArray⟩, .slice A52 n52 c52, .slice A62 n62 c62, .slice A72 n72 c72] 27)) (ok' := fun b => B < b ∧ ¬ b = T ∧ ¬ b = P) keepsE ROWH.out (Sh.of_fr (((Fr.refl [P] y0).drew.trans f8).alloc _) (fun b hb hlt => ⟨hb, by simp; exact hb.2.2⟩))
 go_simp
 refine hK3.out _ _ ?hS1055 (fun hHeld => ?hq1055)
 case hS1055 => exact (cells8 Q8).1.2.2.2.2.2.2.1
 clear hK3 K3
 (try simp only [Act.put, List.setIfInBounds_toArray, List.set_cons_zero, List.set_cons_succ])
 refine held_step (i := 4) rfl (by kernel_rfl) (fun K4 hK4 => ?hr1056)
 go_simp
 refine hK4.out _ _ ?hS1056 (fun hHeld => ?hq1056)
 case hS1056 => exact cell_of (heap_old Q8 _) 6
 clear hK4 K4
 (try simp only [Act.put, List.setIfInBounds_toArray, List.set_cons_zero, List.set_cons_succ])
 refine held_step (i := 5) rfl (by kernel_rfl) (fun K5 hK5 => ?hr1057)
 refine step_append_fp (by rfl) _ _ 24 (by rfl) 27 i0 _ 8 128 Tryz.underlying24 HI.out HZ0.out HZ1.out HZ2.out rfl (by decide) (.slice (some ⟨gz, 0, none⟩) 1 1) 1 (flatN (fun _ => [.int .i64 k1, .int .i64 a1, .string ⟨nm1.toArray⟩, .int .i64 n1, .string ⟨s1.toArray⟩, .slice A51 n51 c51, .slice A61 n61 c61, .slice A71 n71 c71]) 1) (by rfl) ROW9.own ⟨x8.heap.size, 0, none⟩ 1 1 [.int .i64 k2, .int .i64 a2, .string ⟨nm2.toArray⟩, .int .i64 n2, .string ⟨s2.toArray⟩, .slice A52 n52 c52, .slice A62 n62 c62, .slice A72 n72 c72] (by rfl) rfl (World.news_of_block (heap_new x8 _)) (by simp [Value.oneCell']) (by decide) (by decide) ?_
 intro v9 w9 hown9 hgrow9 hfp9
 obtain ⟨g9, cp9, hv9⟩ : ∃ g cap, v9 = .slice (some ⟨g, 0, none⟩) (2) cap := own_form hown9
 subst hv9
 have Q9 := (hgrow9.block T (lt_of_heap (heap_old Q8 (.cells #[.int .i64 k2, .int .i64 a2, .string ⟨nm2.toArray⟩, .int .i64 n2, .string ⟨s2.toArray⟩, .slice A52 n52 c52, .slice A62 n62 c62, .slice A72 n72 c72] 27))) (fun e => (ROWH.out.blk T e.symm).2.1 rfl)).trans (heap_old Q8 (.cells #[.int .i64 k2, .int .i64 a2, .string ⟨nm2.toArray⟩, .int .i64 n2, .string ⟨s2.toArray⟩, .slice A52 n52 c52, .slice A62 n62 c62, .slice A72 n72 c72] 27))
 have hT9 := lt_of_heap Q9
 obtain ⟨⟨u0, u1, u2, u3, u4, u5, u6, u7⟩, z0, z1, z2, z3, z4, z5, z6, z7⟩ := cells8 Q9
 refine hK5.out _ _ ?hS1057 (fun hHeld => ?hq1057)
 case hS1057 => exact u6
 clear hK5 K5
 (try simp only [Act.put, List.setIfInBounds_toArray, List.set_cons_zero, List.set_cons_succ])
 refine held_take (i := 6) (v := ?v1058) rfl (by kernel_rfl) (by kernel_rfl) (by kernel_rfl) (fun _ _ _ h => h) (Or.inl ⟨by rfl, ?hy1058⟩) (by assumption) ?hr1058
 case hy1058 =>
  intro w' hSw
  (try dsimp only at hSw)
  go_simp
  (try with_reducible rfl)
 (try simp only [Act.put, List.setIfInBounds_toArray, List.set_cons_zero, List.set_cons_succ])
 refine wpAnyH_done (by kernel_rfl) ?hr1059 _
 refine thenLast_run rfl ?hq1059
 go_simp
 refine hK.out _ _ ?hs1059
 clear hK K
 clear l0 l1 l2 l3 l4 l5 l6 l7 u0 u1 u2 u3 u4 u5 u6 u7 z0 z1 z2 z3 z4 z5 z6 z7
 have f8 : Fr [P] y0 x8 := ((Fr.refl [P] y0).drew).trans f8
 have row := ROWH.out
 obtain ⟨F, g0, q0, h0, row, hsh, hnew, hsz⟩ := app_after (fld := 6) (size := 8) keepsE f8 hx2 rfl hst g0 q0 row F (by omega) (by omega) (by omega) (by omega) (by omega) (by omega) (by omega) hown9 hgrow9 hfp9 (VV' := #[.int .i64 13, .int .i64 a, .string ⟨(nameT v (mustS p st1 [119, 105, 116, 104])).toArray⟩, .int .i64 0, .string ⟨#[]⟩, .slice none 0 0, .slice (some ⟨g9, 0, none⟩) 2 cp9, .slice none 0 0]) rfl
 clear ROWH ROW9 Q8 Q9 hown9 hgrow9 hfp9 f8 hst hT8 hT9 hTwr
 generalize w9.setCell ⟨T, 6, none⟩ (.slice (some ⟨g9, 0, none⟩) 2 cp9) = y1 at *
 clear hsh hnew hsz cS
 go_wp2_with fail
 obtain ⟨q2, hq2⟩ := tok_at h0.inb
 refine (must_any [125] P g c ts st5 q2 hq2 y1 h0 HE.out).mono ?_
 rintro e y2 ⟨rfl, h0, fm⟩
 have g0 := fm.keep g0 (by simp; omega)
 have q0 := fm.keep q0 (by simp; omega)
 have F := F.trans fm
 have row := RowG.keep (ok' := fun b => B < b ∧ ¬ b = T ∧ ¬ b = P) keepsE row (Sh.of_fr fm (fun b hb hlt => ⟨hb, by simp; exact hb.2.2⟩))
 clear fm
 have rowE := RowG.keep (ok' := fun b => B < b) keepsE row (Sh.of_fr (Fr.refl [] y2) (fun b hb hlt => ⟨hb.1, fun x => by cases x⟩))
 clear row
 have hBlt := lt_of_heap g0
 have hTlt := lt_of_heap q0
 obtain ⟨⟨l0, l1, l2, l3, l4, l5, l6, l7⟩, _⟩ := cells8 q0
 obtain ⟨⟨u0_, u1, u2, u3, u4, u5, u6, u7⟩, z0, z1, z2, z3, z4, z5, z6, z7⟩ := cells8 g0
 have HG := Lib.hid (st8_heap g0 (.int .i64 13) (.int .i64 a) (.string ⟨(nameT v (mustS p st1 [119, 105, 116, 104])).toArray⟩) (.int .i64 0) (.string ⟨#[]⟩) (.slice none 0 0) (.slice (some ⟨g9, 0, none⟩) 2 cp9) (.slice none 0 0))
 have HF := Lib.hid (F.step (st8_fr y2 B (.int .i64 13) (.int .i64 a) (.string ⟨(nameT v (mustS p st1 [119, 105, 116, 104])).toArray⟩) (.int .i64 0) (.string ⟨#[]⟩) (.slice none 0 0) (.slice (some ⟨g9, 0, none⟩) 2 cp9) (.slice none 0 0)) (fun x hx => .inr (by simp at hx; omega)))
 have HP := Lib.hid (h0.frL (st8_fr y2 B (.int .i64 13) (.int .i64 a) (.string ⟨(nameT v (mustS p st1 [119, 105, 116, 104])).toArray⟩) (.int .i64 0) (.string ⟨#[]⟩) (.slice none 0 0) (.slice (some ⟨g9, 0, none⟩) 2 cp9) (.slice none 0 0)) (by simp; omega) (by simp; omega))
 have HRW0 := Lib.hid (RowG.keep (ok' := fun b => B ≤ b) keepsE rowE (Sh.of_fr (st8_fr y2 B (.int .i64 13) (.int .i64 a) (.string ⟨(nameT v (mustS p st1 [119, 105, 116, 104])).toArray⟩) (.int .i64 0) (.string ⟨#[]⟩) (.slice none 0 0) (.slice (some ⟨g9, 0, none⟩) 2 cp9) (.slice none 0 0)) (fun b hb hlt => ⟨by omega, by simp; omega⟩)))
 unfold st8 at HG HF HP HRW0
 go_wp2_with fail
 generalize (((((((y2.setCell ⟨B, 0, none⟩ (.int .i64 13)).setCell ⟨B, 1, none⟩ (.int .i64 a)).setCell ⟨B, 2, none⟩ (.string ⟨(nameT v (mustS p st1 [119, 105, 116, 104])).toArray⟩)).setCell ⟨B, 3, none⟩ (.int .i64 0)).setCell ⟨B, 4, none⟩ (.string ⟨#[]⟩)).setCell ⟨B, 5, none⟩ (.slice none 0 0)).setCell ⟨B, 6, none⟩ (.slice (some ⟨g9, 0, none⟩) 2 cp9)).setCell ⟨B, 7, none⟩ (.slice none 0 0) = Z at HG HF HP HRW0 ⊢
 obtain ⟨⟨d0, d1, d2, d3, d4, d5, d6, d7⟩, _⟩ := cells8 HG.out
 have hxx := ExprAt.of_rows (w := Z) (ok := fun b => B ≤ b) (k := 13) (a := a) (nm := nameT v (mustS p st1 [119, 105, 116, 104])) (n := 0) (s := []) (c5 := fun _ => []) RowG.nil_ HRW0.out (c7 := fun _ => []) RowG.nil_
 refine bodyPost_ret (v := .agg #[.int .i64 13, .int .i64 a, .string ⟨(nameT v (mustS p st1 [119, 105, 116, 104])).toArray⟩, .int .i64 0, .string ⟨#[]⟩, .slice none 0 0, .slice (some ⟨g9, 0, none⟩) 2 cp9, .slice none 0 0]) ?_ rfl ?_
 ·simp [results, Tryz.f112, go_sem, d0, d1, d2, d3, d4, d5, d6, d7]
 ·exact ⟨_, _, _, _, _, _, _, _, _, _, _, _, _, _, _, _, _, _, rfl, hxx.keep (Sh.of_fr (Fr.refl [] Z) (fun b hb hlt => ⟨by omega, fun x => by cases x⟩)), by unfold body; exact .may_no HT.out HB.out (.els (.ahead (by unfold aheadT; rw [← HJ.out]; exact HN_.out) (.look HT.out (by rw [if_neg (by rw [HK7.out]; simp)]; exact .callE hr1 (.must_ hp (.name_ hv (.must_ hq (.callE hr2 (.must_ hq2 .retE))))))))), HP.out, HF.out⟩
end Go.Proofs.YtpjkfeehgookkaaGreatDoor
namespace Go.Proofs.YtpjkfeehgookkaaGreatDoor
open Go.RowKit
attribute [local go_sem ↓] Go.wp_at_zero Go.wp_at_succ
set_option maxHeartbeats 16000000 in
set_option maxRecDepth 100000 in
theorem braces_with3 (ts : List Tok) (hE : EndOk ts) (N : Nat) (ih : AllE ts N) (P g c : Nat) (st : St) (a : Int) (w : World) (h : PSt P g c ts st w) (hm : 16 * (ts.length - st.i) + 14 < N + 1) (t : Tok) (ht : ts[st.i]? = some t) (hb : isB t st.ok [[125]] = false) (n : Tok) (J : Nat) (hj : J = min (st.i + 1) (ts.length - 1)) (hn : ts[J]? = some n) (hk : (t.k == 1) = true) (hk7 : (n.k == 7) = true) (hx : (n.text == [61]) = false) : Calls Tryz.prog 112 #[.pointer (some ⟨P, 0, none⟩), .agg #[.int .i64 0, .int .i64 a, .string ⟨#[]⟩, .int .i64 0, .string ⟨#[]⟩, .slice none 0 0, .slice none 0 0, .slice none 0 0]] w (ExOk P g c ts st (body (.braces a)) w) := by
 have HB := Lib.hid hb
 clear hb
 have HJ := Lib.hid hj
 clear hj
 have HN_ := Lib.hid hn
 clear hn
 have HK := Lib.hid hk
 clear hk
 have HK7 := Lib.hid hk7
 clear hk7
 have HX := Lib.hid hx
 clear hx
 have HT := Lib.hid ht
 clear ht
 have IH := Lib.hid ih
 clear ih
 have H := Lib.hid h
 have hP := lt_of_heap h.blk
 have hgl := h.lt
 have hin := h.inb
 have HN := Lib.hid hm
 have HE := Lib.hid hE
 clear h hm hE
 go_enter Tryz.func112, Tryz.ntmps112
 go_wp2_with fail
 have f0 : Fr [] w ((w.alloc (.cells #[.int .i64 0, .int .i64 a, .string ⟨#[]⟩, .int .i64 0, .string ⟨#[]⟩, .slice none 0 0, .slice none 0 0, .slice none 0 0] 27)).alloc (.cells #[.int .i64 0, .int .i64 0, .string ⟨#[]⟩, .int .i64 0, .string ⟨#[]⟩, .slice none 0 0, .slice none 0 0, .slice none 0 0] 27)) := ((Fr.refl [] w).alloc _).alloc _
 have q0 := heap_old (heap_new w (.cells #[.int .i64 0, .int .i64 a, .string ⟨#[]⟩, .int .i64 0, .string ⟨#[]⟩, .slice none 0 0, .slice none 0 0, .slice none 0 0] 27)) (.cells #[.int .i64 0, .int .i64 0, .string ⟨#[]⟩, .int .i64 0, .string ⟨#[]⟩, .slice none 0 0, .slice none 0 0, .slice none 0 0] 27)
 have g0 := heap_new (w.alloc (.cells #[.int .i64 0, .int .i64 a, .string ⟨#[]⟩, .int .i64 0, .string ⟨#[]⟩, .slice none 0 0, .slice none 0 0, .slice none 0 0] 27)) (.cells #[.int .i64 0, .int .i64 0, .string ⟨#[]⟩, .int .i64 0, .string ⟨#[]⟩, .slice none 0 0, .slice none 0 0, .slice none 0 0] 27)
 have hsz : (w.alloc (.cells #[.int .i64 0, .int .i64 a, .string ⟨#[]⟩, .int .i64 0, .string ⟨#[]⟩, .slice none 0 0, .slice none 0 0, .slice none 0 0] 27)).heap.size = w.heap.size + 1 := by simp
 rw [hsz] at g0
 clear hsz
 have h0 := H.out.fr f0
 have F := f0.mono (L' := [P]) (fun x hx => by cases hx)
 generalize (w.alloc (.cells #[.int .i64 0, .int .i64 a, .string ⟨#[]⟩, .int .i64 0, .string ⟨#[]⟩, .slice none 0 0, .slice none 0 0, .slice none 0 0] 27)).alloc (.cells #[.int .i64 0, .int .i64 0, .string ⟨#[]⟩, .int .i64 0, .string ⟨#[]⟩, .slice none 0 0, .slice none 0 0, .slice none 0 0] 27) = w1 at *
 generalize hT : w.heap.size = T at *
 generalize hB : T + 1 = B at *
 have hPT : P < T := hP
 have hgT : g < T := hgl
 clear f0 hP hgl
 refine (may_no [125] P g c ts st t HT.out HB.out w1 h0 HE.out).mono ?_
 rintro e x1 ⟨rfl, fm⟩
 have g0 := fm.keep g0 (fun x => by cases x)
 have q0 := fm.keep q0 (fun x => by cases x)
 have F := F.trans0 fm
 have h0 := h0.fr fm
 clear fm
 go_wp2_with fail
 obtain ⟨p0, p1, p2, _⟩ := cells3 h0.blk
 have a0 := h0.rt.c0 _ _ HN_.out
 have a1 := h0.rt.c1 _ _ HN_.out
 have a2 := h0.rt.c2 _ _ HN_.out
 have a3 := h0.rt.c3 _ _ HN_.out
 have hPx := lt_of_heap h0.blk
 have hgx := h0.lt
 have hts := HE.out.1
 have hmin : min ((st.i : Int) + 1) ((ts.length - 1 : Nat) : Int) = (J : Int) := by have := HJ.out; omega
 have hJ1 : (0 : Int) ≤ (J : Int) := by omega
 have hJ2 : (J : Int) < (ts.length : Int) := by have := HJ.out; omega
 have w1q : IntKind.i64.wrap ((st.i : Int) + 1) = ((st.i + 1 : Nat) : Int) := (IntWalk.i64_in _ (by omega)).trans (by omega)
 have w2q : IntKind.i64.wrap ((ts.length : Int) - 1) = ((ts.length - 1 : Nat) : Int) := (IntWalk.i64_in _ (by omega)).trans (by omega)
 refine wp_region_last20 (fun w' => w'.cell? ⟨P, 0, none⟩ = some (.slice (some ⟨g, 0, none⟩) ts.length c) ∧ w'.cell? ⟨P, 1, none⟩ = some (.int .i64 (st.i : Nat)) ∧ w'.cell? ⟨g, J * 4, none⟩ = some (.int .i64 n.k) ∧ w'.cell? ⟨g, J * 4 + 1, none⟩ = some (.int .i64 n.at') ∧ w'.cell? ⟨g, J * 4 + 2, none⟩ = some (.string ⟨n.text.toArray⟩) ∧ w'.cell? ⟨g, J * 4 + 3, none⟩ = some (.int .i64 n.n)) (by kernel_rfl) (by kernel_rfl) ?hS1060 (fun K hK hHeld => ?hr1060)
 case hS1060 => go_keep
 refine held_take (i := 0) (v := ?v1061) rfl (by kernel_rfl) (by kernel_rfl) (by kernel_rfl) (fun _ _ _ h => h) (Or.inl ⟨by rfl, ?hy1061⟩) (by assumption) ?hr1061
 case hy1061 =>
  intro w' hSw
  (try dsimp only at hSw)
  go_simp
  (try with_reducible rfl)
 (try simp only [Act.put, List.setIfInBounds_toArray, List.set_cons_zero, List.set_cons_succ])
 refine held_take (i := 1) (v := ?v1062) rfl (by kernel_rfl) (by kernel_rfl) (by kernel_rfl) (fun _ _ _ h => h) (Or.inl ⟨by rfl, ?hy1062⟩) (by assumption) ?hr1062
 case hy1062 =>
  intro w' hSw
  (try dsimp only at hSw)
  go_simp
  (try with_reducible rfl)
 (try simp only [Act.put, List.setIfInBounds_toArray, List.set_cons_zero, List.set_cons_succ])
 refine held_take (i := 2) (v := ?v1063) rfl (by kernel_rfl) (by kernel_rfl) (by kernel_rfl) (fun _ _ _ h => h) (Or.inl ⟨by rfl, ?hy1063⟩) (by assumption) ?hr1063
 case hy1063 =>
  intro w' hSw
  (try dsimp only at hSw)
  go_simp
  (try with_reducible rfl)
 (try simp only [Act.put, List.setIfInBounds_toArray, List.set_cons_zero, List.set_cons_succ])
 refine held_take (i := 3) (v := ?v1064) rfl (by kernel_rfl) (by kernel_rfl) (by kernel_rfl) (fun _ _ _ h => h) (Or.inl ⟨by rfl, ?hy1064⟩) (by assumption) ?hr1064
 case hy1064 =>
  intro w' hSw
  (try dsimp only at hSw)
  go_simp
  (try with_reducible rfl)
 (try simp only [Act.put, List.setIfInBounds_toArray, List.set_cons_zero, List.set_cons_succ])
 refine held_take (i := 4) (v := ?v1065) rfl (by kernel_rfl) (by kernel_rfl) (by kernel_rfl) (fun _ _ _ h => h) (Or.inl ⟨by rfl, ?hy1065⟩) (by assumption) ?hr1065
 case hy1065 =>
  intro w' hSw
  (try dsimp only at hSw)
  go_simp
  (try with_reducible rfl)
 (try simp only [Act.put, List.setIfInBounds_toArray, List.set_cons_zero, List.set_cons_succ])
 refine held_take (i := 5) (v := ?v1066) rfl (by kernel_rfl) (by kernel_rfl) (by kernel_rfl) (fun _ _ _ h => h) (Or.inl ⟨by rfl, ?hy1066⟩) (by assumption) ?hr1066
 case hy1066 =>
  intro w' hSw
  (try dsimp only at hSw)
  go_simp
  (try with_reducible rfl)
 (try simp only [Act.put, List.setIfInBounds_toArray, List.set_cons_zero, List.set_cons_succ])
 refine held_take (i := 6) (v := ?v1067) rfl (by kernel_rfl) (by kernel_rfl) (by kernel_rfl) (fun _ _ _ h => h) (Or.inl ⟨by rfl, ?hy1067⟩) (by assumption) ?hr1067
 case hy1067 =>
  intro w' hSw
  (try dsimp only at hSw)
  go_simp
  (try with_reducible rfl)
 (try simp only [Act.put, List.setIfInBounds_toArray, List.set_cons_zero, List.set_cons_succ])
 refine held_take (i := 7) (v := ?v1068) rfl (by kernel_rfl) (by kernel_rfl) (by kernel_rfl) (fun _ _ _ h => h) (Or.inl ⟨by rfl, ?hy1068⟩) (by assumption) ?hr1068
 case hy1068 =>
  intro w' hSw
  (try dsimp only at hSw)
  go_simp
  (try with_reducible rfl)
 (try simp only [Act.put, List.setIfInBounds_toArray, List.set_cons_zero, List.set_cons_succ])
 refine held_take (i := 8) (v := ?v1069) rfl (by kernel_rfl) (by kernel_rfl) (by kernel_rfl) (fun _ _ _ h => h) (Or.inl ⟨by rfl, ?hy1069⟩) (by assumption) ?hr1069
 case hy1069 =>
  intro w' hSw
  (try dsimp only at hSw)
  go_simp
  (try with_reducible rfl)
 (try simp only [Act.put, List.setIfInBounds_toArray, List.set_cons_zero, List.set_cons_succ])
 refine held_take (i := 9) (v := ?v1070) rfl (by kernel_rfl) (by kernel_rfl) (by kernel_rfl) (fun _ _ _ h => h) (Or.inl ⟨by rfl, ?hy1070⟩) (by assumption) ?hr1070
 case hy1070 =>
  intro w' hSw
  (try dsimp only at hSw)
  go_simp
  (try with_reducible rfl)
 (try simp only [Act.put, List.setIfInBounds_toArray, List.set_cons_zero, List.set_cons_succ])
 refine held_take (i := 10) (v := ?v1071) rfl (by kernel_rfl) (by kernel_rfl) (by kernel_rfl) (fun _ _ _ h => h) (Or.inl ⟨by rfl, ?hy1071⟩) (by assumption) ?hr1071
 case hy1071 =>
  intro w' hSw
  (try dsimp only at hSw)
  go_simp
  (try with_reducible rfl)
 (try simp only [Act.put, List.setIfInBounds_toArray, List.set_cons_zero, List.set_cons_succ])
 refine held_take (i := 11) (v := ?v1072) rfl (by kernel_rfl) (by kernel_rfl) (by kernel_rfl) (fun _ _ _ h => h) (Or.inl ⟨by rfl, ?hy1072⟩) (by assumption) ?hr1072
 case hy1072 =>
  intro w' hSw
  (try dsimp only at hSw)
  go_simp
  (try with_reducible rfl)
 (try simp only [Act.put, List.setIfInBounds_toArray, List.set_cons_zero, List.set_cons_succ])
 refine held_take (i := 12) (v := ?v1073) rfl (by kernel_rfl) (by kernel_rfl) (by kernel_rfl) (fun _ _ _ h => h) (Or.inl ⟨by rfl, ?hy1073⟩) (by assumption) ?hr1073
 case hy1073 =>
  intro w' hSw
  (try dsimp only at hSw)
  go_simp
  (try with_reducible rfl)
 (try simp only [Act.put, List.setIfInBounds_toArray, List.set_cons_zero, List.set_cons_succ])
 refine held_take (i := 13) (v := ?v1074) rfl (by kernel_rfl) (by kernel_rfl) (by kernel_rfl) (fun _ _ _ h => h) (Or.inl ⟨by rfl, ?hy1074⟩) (by assumption) ?hr1074
 case hy1074 =>
  intro w' hSw
  (try dsimp only at hSw)
  go_simp
  (try with_reducible rfl)
 (try simp only [Act.put, List.setIfInBounds_toArray, List.set_cons_zero, List.set_cons_succ])
 refine held_take (i := 14) (v := ?v1075) rfl (by kernel_rfl) (by kernel_rfl) (by kernel_rfl) (fun _ _ _ h => h) (Or.inl ⟨by rfl, ?hy1075⟩) (by assumption) ?hr1075
 case hy1075 =>
  intro w' hSw
  (try dsimp only at hSw)
  go_simp
  (try with_reducible rfl)
 (try simp only [Act.put, List.setIfInBounds_toArray, List.set_cons_zero, List.set_cons_succ])
 refine held_take (i := 15) (v := ?v1076) rfl (by kernel_rfl) (by kernel_rfl) (by kernel_rfl) (fun _ _ _ h => h) (Or.inl ⟨by rfl, ?hy1076⟩) (by assumption) ?hr1076
 case hy1076 =>
  intro w' hSw
  (try dsimp only at hSw)
  go_simp
  (try with_reducible rfl)
 (try simp only [Act.put, List.setIfInBounds_toArray, List.set_cons_zero, List.set_cons_succ])
 refine held_take (i := 16) (v := ?v1077) rfl (by kernel_rfl) (by kernel_rfl) (by kernel_rfl) (fun _ _ _ h => h) (Or.inl ⟨by rfl, ?hy1077⟩) (by assumption) ?hr1077
 case hy1077 =>
  intro w' hSw
  (try dsimp only at hSw)
  go_simp
  (try with_reducible rfl)
 (try simp only [Act.put, List.setIfInBounds_toArray, List.set_cons_zero, List.set_cons_succ])
 refine held_take (i := 17) (v := ?v1078) rfl (by kernel_rfl) (by kernel_rfl) (by kernel_rfl) (fun _ _ _ h => h) (Or.inl ⟨by rfl, ?hy1078⟩) (by assumption) ?hr1078
 case hy1078 =>
  intro w' hSw
  (try dsimp only at hSw)
  go_simp
  (try with_reducible rfl)
 (try simp only [Act.put, List.setIfInBounds_toArray, List.set_cons_zero, List.set_cons_succ])
 refine held_step (i := 18) rfl (by kernel_rfl) (fun K18 hK18 => ?hr1079)
 go_simp
 refine hK18.out _ _ ?hS1079 (fun hHeld => ?hq1079)
 case hS1079 => go_keep
 clear hK18 K18
 (try simp only [Act.put, List.setIfInBounds_toArray, List.set_cons_zero, List.set_cons_succ])
 refine wpAnyH_done (by kernel_rfl) ?hr1080 _
 refine thenLast_run rfl ?hq1080
 go_simp
 refine hK.out _ _ ?hs1080
 clear hK K
 clear p0 p1 p2 a0 a1 a2 a3 hHeld hmin hJ1 hJ2 w1q w2q
 have fd : Fr [] x1 ((x1.alloc (.cells #[.int .i64 n.k, .int .i64 n.at', .string ⟨n.text.toArray⟩, .int .i64 n.n] 46)).drew) := ((Fr.refl [] x1).alloc _).drew
 have q5 : ((x1.alloc (.cells #[.int .i64 n.k, .int .i64 n.at', .string ⟨n.text.toArray⟩, .int .i64 n.n] 46)).drew).heap[x1.heap.size]? = some (.cells #[.int .i64 n.k, .int .i64 n.at', .string ⟨n.text.toArray⟩, .int .i64 n.n] 46 (0, 0)) := heap_new x1 (.cells #[.int .i64 n.k, .int .i64 n.at', .string ⟨n.text.toArray⟩, .int .i64 n.n] 46)
 have hBx1 := lt_of_heap g0
 have hTx1 := lt_of_heap q0
 have g0 := fd.keep g0 (fun x => by cases x)
 have q0 := fd.keep q0 (fun x => by cases x)
 have h0 := h0.fr fd
 have F := F.trans0 fd
 generalize (x1.alloc (.cells #[.int .i64 n.k, .int .i64 n.at', .string ⟨n.text.toArray⟩, .int .i64 n.n] 46)).drew = x2 at *
 generalize x1.heap.size = TN at *
 clear fd
 go_wp2_with fail
 refine (now_any P g c ts st t HT.out x2 h0 HE.out).mono ?_
 rintro e x3 ⟨rfl, f3⟩
 have g0 := f3.keep g0 (fun x => by cases x)
 have q0 := f3.keep q0 (fun x => by cases x)
 have q5 := f3.keep q5 (fun x => by cases x)
 have h0 := h0.fr f3
 have F := F.trans0 f3
 have r0 := tok_f0
 have hTN := lt_of_heap q5
 obtain ⟨y0, y1, y2, y3, _⟩ := cells4 q5
 clear f3
 have hk := HK.out
 have hk7 := HK7.out
 have hx := HX.out
 obtain ⟨⟨m0, m1, m2, m3, m4, m5, m6, m7⟩, j0, j1, j2, j3, j4, j5, j6, j7⟩ := cells8 q0
 have hTx := lt_of_heap q0
 have q1 : (x3.setCell ⟨T, 0, none⟩ (.int .i64 13)).heap[T]? = some (.cells #[.int .i64 13, .int .i64 a, .string ⟨#[]⟩, .int .i64 0, .string ⟨#[]⟩, .slice none 0 0, .slice none 0 0, .slice none 0 0] 27 (0, 0)) := set_at q0 0 _
 have fs := (Fr.refl [T] x3).setCell (p := ⟨T, 0, none⟩) (.inl (by simp)) (.int .i64 13)
 have g0 := fs.keep g0 (by simp; omega)
 have h0 := h0.frL fs (by simp; omega) (by simp; omega)
 have F := F.step fs (fun x hx => .inr (by simp at hx; omega))
 have HQ := Lib.hid q1
 clear q0 q1 fs
 go_wp2_with fail
 clear m0 m1 m2 m3 m4 m5 m6 m7 j0 j1 j2 j3 j4 j5 j6 j7
 have q0 := HQ.out
 clear HQ
 generalize x3.setCell ⟨T, 0, none⟩ (.int .i64 13) = x3n at *
 clear y0 y1 y2 y3 q5 r0 hk hk7 hx
 refine (IH.out.seq P g c st x3n h0 (by have := HN.out; have := h0.inb; omega)).mono ?_
 rintro e x4 ⟨k1, a1, nm1, n1, s1, ls1, args1, arms1, A51, n51, c51, A61, n61, c61, A71, n71, c71, st1, rfl, hx1, hr1, hst1, f1⟩
 have hw1 := lt_of_heap g0
 have hT1 := lt_of_heap q0
 have g0 := f1.keep g0 (by simp; omega)
 have q0 := f1.keep q0 (by simp; omega)
 have F := F.trans f1
 have hs1 := f1.size
 have hxs := lt_of_heap g0
 obtain ⟨⟨m0, m1, m2, m3, m4, m5, m6, m7⟩, j0, j1, j2, j3, j4, j5, j6, j7⟩ := cells8 q0
 have hTx := lt_of_heap q0
 have q1 : (x4.setCell ⟨T, 6, none⟩ (.slice (some ⟨x4.heap.size, 0, none⟩) 1 1)).heap[T]? = some (.cells #[.int .i64 13, .int .i64 a, .string ⟨#[]⟩, .int .i64 0, .string ⟨#[]⟩, .slice none 0 0, .slice (some ⟨x4.heap.size, 0, none⟩) 1 1, .slice none 0 0] 27 (0, 0)) := set_at q0 6 _
 have fs := (Fr.refl [T] x4).setCell (p := ⟨T, 6, none⟩) (.inl (by simp)) (.slice (some ⟨x4.heap.size, 0, none⟩) 1 1)
 have g1 := fs.keep g0 (by simp; omega)
 have h1 := hst1.frL fs (by simp; omega) (by simp; omega)
 have F1 := F.step fs (fun x hx => .inr (by simp at hx; omega))
 have hx1 := hx1.keep (ok' := fun b => B < b ∧ ¬ b = T ∧ ¬ b = P) (Sh.of_fr fs (fun b hb hlt => ⟨by have : x3n.heap.size ≤ b := hb; exact ⟨by omega, by omega, by omega⟩, by have : x3n.heap.size ≤ b := hb; simp; omega⟩))
 have hss : (x4.setCell ⟨T, 6, none⟩ (.slice (some ⟨x4.heap.size, 0, none⟩) 1 1)).heap.size = x4.heap.size := by simp [World.setCell]
 have row := RowG.lit keepsE (T := 27) (size := 8) (ok := fun b => B < b ∧ ¬ b = T ∧ ¬ b = P) hx1 rfl (by rw [hss]; exact ⟨by omega, by omega, by omega⟩)
 rw [hss] at row
 have HQ := Lib.hid (heap_old q1 (.cells #[.int .i64 k1, .int .i64 a1, .string ⟨nm1.toArray⟩, .int .i64 n1, .string ⟨s1.toArray⟩, .slice A51 n51 c51, .slice A61 n61 c61, .slice A71 n71 c71] 27))
 have HG1 := Lib.hid (heap_old g1 (.cells #[.int .i64 k1, .int .i64 a1, .string ⟨nm1.toArray⟩, .int .i64 n1, .string ⟨s1.toArray⟩, .slice A51 n51 c51, .slice A61 n61 c61, .slice A71 n71 c71] 27))
 have HH1 := Lib.hid (h1.fr ((Fr.refl [] (x4.setCell ⟨T, 6, none⟩ (.slice (some ⟨x4.heap.size, 0, none⟩) 1 1))).alloc (.cells #[.int .i64 k1, .int .i64 a1, .string ⟨nm1.toArray⟩, .int .i64 n1, .string ⟨s1.toArray⟩, .slice A51 n51 c51, .slice A61 n61 c61, .slice A71 n71 c71] 27)))
 have HF1 := Lib.hid (F1.alloc (.cells #[.int .i64 k1, .int .i64 a1, .string ⟨nm1.toArray⟩, .int .i64 n1, .string ⟨s1.toArray⟩, .slice A51 n51 c51, .slice A61 n61 c61, .slice A71 n71 c71] 27))
 have ROW1 := Lib.hid row
 clear q0 q1 g0 g1 h1 F1 F fs row hx1 hst1 hss h0
 go_wp2_with fail
 clear m0 m1 m2 m3 m4 m5 m6 m7 j0 j1 j2 j3 j4 j5 j6 j7
 generalize (x4.setCell ⟨T, 6, none⟩ (.slice (some ⟨x4.heap.size, 0, none⟩) 1 1)).alloc (.cells #[.int .i64 k1, .int .i64 a1, .string ⟨nm1.toArray⟩, .int .i64 n1, .string ⟨s1.toArray⟩, .slice A51 n51 c51, .slice A61 n61 c61, .slice A71 n71 c71] 27) = x5 at *
 generalize x4.heap.size = gz at *
 have q0 := HQ.out
 have g0 := HG1.out
 have h0 := HH1.out
 have F := HF1.out
 have row := ROW1.out
 clear HQ HG1 HH1 HF1 ROW1 f1
 obtain ⟨p, hp⟩ := tok_at h0.inb
 refine (must_any [119, 105, 116, 104] P g c ts st1 p hp x5 h0 HE.out).mono ?_
 rintro e y6 ⟨rfl, h0, fm⟩
 have g0 := fm.keep g0 (by simp; omega)
 have q0 := fm.keep q0 (by simp; omega)
 have F := F.trans fm
 have row := RowG.keep (ok' := fun b => B < b ∧ ¬ b = T ∧ ¬ b = P) keepsE row (Sh.of_fr fm (fun b hb hlt => ⟨hb, by simp; exact hb.2.2⟩))
 clear fm
 go_wp2_with fail
 obtain ⟨v, hv⟩ := tok_at h0.inb
 refine (name_any P g c ts (mustS p st1 [119, 105, 116, 104]) v hv y6 h0 HE.out).mono ?_
 rintro e x8 ⟨rfl, h0, fm⟩
 have g0 := fm.keep g0 (by simp; omega)
 have q0 := fm.keep q0 (by simp; omega)
 have F := F.trans fm
 have row := RowG.keep (ok' := fun b => B < b ∧ ¬ b = T ∧ ¬ b = P) keepsE row (Sh.of_fr fm (fun b hb hlt => ⟨hb, by simp; exact hb.2.2⟩))
 obtain ⟨⟨m0, m1, m2, m3, m4, m5, m6, m7⟩, j0, j1, j2, j3, j4, j5, j6, j7⟩ := cells8 q0
 have hTx := lt_of_heap q0
 have q1 : (x8.setCell ⟨T, 2, none⟩ (.string ⟨(nameT v (mustS p st1 [119, 105, 116, 104])).toArray⟩)).heap[T]? = some (.cells #[.int .i64 13, .int .i64 a, .string ⟨(nameT v (mustS p st1 [119, 105, 116, 104])).toArray⟩, .int .i64 0, .string ⟨#[]⟩, .slice none 0 0, .slice (some ⟨gz, 0, none⟩) 1 1, .slice none 0 0] 27 (0, 0)) := set_at q0 2 _
 have fs := (Fr.refl [T] x8).setCell (p := ⟨T, 2, none⟩) (.inl (by simp)) (.string ⟨(nameT v (mustS p st1 [119, 105, 116, 104])).toArray⟩)
 have g0 := fs.keep g0 (by simp; omega)
 have h0 := h0.frL fs (by simp; omega) (by simp; omega)
 have F := F.step fs (fun x hx => .inr (by simp at hx; omega))
 have row := RowG.keep (ok' := fun b => B < b ∧ ¬ b = T ∧ ¬ b = P) keepsE row (Sh.of_fr fs (fun b hb hlt => ⟨hb, by simp; exact hb.2.1⟩))
 have HQ := Lib.hid q1
 clear q0 q1 fs
 go_wp2_with fail
 clear m0 m1 m2 m3 m4 m5 m6 m7 j0 j1 j2 j3 j4 j5 j6 j7
 have q0 := HQ.out
 clear HQ
 generalize x8.setCell ⟨T, 2, none⟩ (.string ⟨(nameT v (mustS p st1 [119, 105, 116, 104])).toArray⟩) = x8n at *
 obtain ⟨q, hq⟩ := tok_at h0.inb
 refine (must_any [61] P g c ts (nameS v (mustS p st1 [119, 105, 116, 104])) q hq x8n h0 HE.out).mono ?_
 rintro e y0 ⟨rfl, h0, fm⟩
 have g0 := fm.keep g0 (by simp; omega)
 have q0 := fm.keep q0 (by simp; omega)
 have F := F.trans fm
 have row := RowG.keep (ok' := fun b => B < b ∧ ¬ b = T ∧ ¬ b = P) keepsE row (Sh.of_fr fm (fun b hb hlt => ⟨hb, by simp; exact hb.2.2⟩))
 clear fm
 obtain ⟨i0, hi, hz0, hz1, hz2⟩ := info_parts infoExpr
 have HI := Lib.hid hi
 have HZ0 := Lib.hid hz0
 have HZ1 := Lib.hid hz1
 have HZ2 := Lib.hid hz2
 clear hi hz0 hz1 hz2
 have hle1 := hr1.le
 have hle2 := mustS_le p st1 [119, 105, 116, 104]
 have hle3 := nameS_le2 v (mustS p st1 [119, 105, 116, 104])
 have hle4 := mustS_le q (nameS v (mustS p st1 [119, 105, 116, 104])) [61]
 have cS := fun W hW => Lib.hid (IH.out.seq P g c (mustS q (nameS v (mustS p st1 [119, 105, 116, 104])) [61]) W hW (by have := HN.out; have := h0.inb; omega))
 obtain ⟨⟨l0, l1, l2, l3, l4, l5, l6, l7⟩, _⟩ := cells8 q0
 have hTwr := lt_of_heap q0
 have ROWH := Lib.hid row
 clear row
 go_wp2_with fail
 refine wp_region_last8 (fun w' => w'.cell? ⟨T, 6, none⟩ = some (.slice (some ⟨gz, 0, none⟩) 1 1)) (by kernel_rfl) (by kernel_rfl) ?hS1081 (fun K hK hHeld => ?hr1081)
 case hS1081 => go_keep
 refine held_take (i := 0) (v := ?v1082) rfl (by kernel_rfl) (by kernel_rfl) (by kernel_rfl) (fun _ _ _ h => h) (Or.inl ⟨by rfl, ?hy1082⟩) (by assumption) ?hr1082
 case hy1082 =>
  intro w' hSw
  (try dsimp only at hSw)
  go_simp
  (try with_reducible rfl)
 (try simp only [Act.put, List.setIfInBounds_toArray, List.set_cons_zero, List.set_cons_succ])
 refine held_take (i := 1) (v := ?v1083) rfl (by kernel_rfl) (by kernel_rfl) (by kernel_rfl) (fun _ _ _ h => h) (Or.inl ⟨by rfl, ?hy1083⟩) (by assumption) ?hr1083
 case hy1083 =>
  intro w' hSw
  (try dsimp only at hSw)
  go_simp
  (try with_reducible rfl)
 (try simp only [Act.put, List.setIfInBounds_toArray, List.set_cons_zero, List.set_cons_succ])
 refine held_take (i := 2) (v := ?v1084) rfl (by kernel_rfl) (by kernel_rfl) (by kernel_rfl) (fun _ _ _ h => h) (Or.inl ⟨by rfl, ?hy1084⟩) (by assumption) ?hr1084
 case hy1084 =>
  intro w' hSw
  (try dsimp only at hSw)
  go_simp
  (try with_reducible rfl)
 (try simp only [Act.put, List.setIfInBounds_toArray, List.set_cons_zero, List.set_cons_succ])
 refine held_step (i := 3) rfl (by kernel_rfl) (fun K3 hK3 => ?hr1085)
 go_simp
 refine ((cS _ (h0.fr (Fr.refl [] y0).drew)).out).mono ?_
 rintro e x8 ⟨k2, a2, nm2, n2, s2, ls2, args2, arms2, A52, n52, c52, A62, n62, c62, A72, n72, c72, st5, rfl, hx2, hr2, hst5, f8⟩
 have hst := hst5
 have Q8 := f8.keep (w := y0.drew) q0 (by simp; omega)
 have hT8 := lt_of_heap Q8
 have ROW9 := RowG.keep (w' := x8.alloc (.cells #[.int .i64 k2, .int .i64 a2, .string ⟨nm2.toArray⟩, .int .i64 n2, .string ⟨s2.toArray⟩, .slice A52 n52 c52, .slice A62 n62 c62, .slice A72 n72 c72] 27)) (ok' := fun b => B < b ∧ ¬ b = T ∧ ¬ b = P) keepsE ROWH.out (Sh.of_fr (((Fr.refl [P] y0).drew.trans f8).alloc _) (fun b hb hlt => ⟨hb, by simp; exact hb.2.2⟩))
 go_simp
 refine hK3.out _ _ ?hS1085 (fun hHeld => ?hq1085)
 case hS1085 => exact (cells8 Q8).1.2.2.2.2.2.2.1
 clear hK3 K3
 (try simp only [Act.put, List.setIfInBounds_toArray, List.set_cons_zero, List.set_cons_succ])
 refine held_step (i := 4) rfl (by kernel_rfl) (fun K4 hK4 => ?hr1086)
 go_simp
 refine hK4.out _ _ ?hS1086 (fun hHeld => ?hq1086)
 case hS1086 => exact cell_of (heap_old Q8 _) 6
 clear hK4 K4
 (try simp only [Act.put, List.setIfInBounds_toArray, List.set_cons_zero, List.set_cons_succ])
 refine held_step (i := 5) rfl (by kernel_rfl) (fun K5 hK5 => ?hr1087)
 refine step_append_fp (by rfl) _ _ 24 (by rfl) 27 i0 _ 8 128 Tryz.underlying24 HI.out HZ0.out HZ1.out HZ2.out rfl (by decide) (.slice (some ⟨gz, 0, none⟩) 1 1) 1 (flatN (fun _ => [.int .i64 k1, .int .i64 a1, .string ⟨nm1.toArray⟩, .int .i64 n1, .string ⟨s1.toArray⟩, .slice A51 n51 c51, .slice A61 n61 c61, .slice A71 n71 c71]) 1) (by rfl) ROW9.own ⟨x8.heap.size, 0, none⟩ 1 1 [.int .i64 k2, .int .i64 a2, .string ⟨nm2.toArray⟩, .int .i64 n2, .string ⟨s2.toArray⟩, .slice A52 n52 c52, .slice A62 n62 c62, .slice A72 n72 c72] (by rfl) rfl (World.news_of_block (heap_new x8 _)) (by simp [Value.oneCell']) (by decide) (by decide) ?_
 intro v9 w9 hown9 hgrow9 hfp9
 obtain ⟨g9, cp9, hv9⟩ : ∃ g cap, v9 = .slice (some ⟨g, 0, none⟩) (2) cap := own_form hown9
 subst hv9
 have Q9 := (hgrow9.block T (lt_of_heap (heap_old Q8 (.cells #[.int .i64 k2, .int .i64 a2, .string ⟨nm2.toArray⟩, .int .i64 n2, .string ⟨s2.toArray⟩, .slice A52 n52 c52, .slice A62 n62 c62, .slice A72 n72 c72] 27))) (fun e => (ROWH.out.blk T e.symm).2.1 rfl)).trans (heap_old Q8 (.cells #[.int .i64 k2, .int .i64 a2, .string ⟨nm2.toArray⟩, .int .i64 n2, .string ⟨s2.toArray⟩, .slice A52 n52 c52, .slice A62 n62 c62, .slice A72 n72 c72] 27))
 have hT9 := lt_of_heap Q9
 obtain ⟨⟨u0, u1, u2, u3, u4, u5, u6, u7⟩, z0, z1, z2, z3, z4, z5, z6, z7⟩ := cells8 Q9
 refine hK5.out _ _ ?hS1087 (fun hHeld => ?hq1087)
 case hS1087 => exact u6
 clear hK5 K5
 (try simp only [Act.put, List.setIfInBounds_toArray, List.set_cons_zero, List.set_cons_succ])
 refine held_take (i := 6) (v := ?v1088) rfl (by kernel_rfl) (by kernel_rfl) (by kernel_rfl) (fun _ _ _ h => h) (Or.inl ⟨by rfl, ?hy1088⟩) (by assumption) ?hr1088
 case hy1088 =>
  intro w' hSw
  (try dsimp only at hSw)
  go_simp
  (try with_reducible rfl)
 (try simp only [Act.put, List.setIfInBounds_toArray, List.set_cons_zero, List.set_cons_succ])
 refine wpAnyH_done (by kernel_rfl) ?hr1089 _
 refine thenLast_run rfl ?hq1089
 go_simp
 refine hK.out _ _ ?hs1089
 clear hK K
 clear l0 l1 l2 l3 l4 l5 l6 l7 u0 u1 u2 u3 u4 u5 u6 u7 z0 z1 z2 z3 z4 z5 z6 z7
 have f8 : Fr [P] y0 x8 := ((Fr.refl [P] y0).drew).trans f8
 have row := ROWH.out
 obtain ⟨F, g0, q0, h0, row, hsh, hnew, hsz⟩ := app_after (fld := 6) (size := 8) keepsE f8 hx2 rfl hst g0 q0 row F (by omega) (by omega) (by omega) (by omega) (by omega) (by omega) (by omega) hown9 hgrow9 hfp9 (VV' := #[.int .i64 13, .int .i64 a, .string ⟨(nameT v (mustS p st1 [119, 105, 116, 104])).toArray⟩, .int .i64 0, .string ⟨#[]⟩, .slice none 0 0, .slice (some ⟨g9, 0, none⟩) 2 cp9, .slice none 0 0]) rfl
 clear ROWH ROW9 Q8 Q9 hown9 hgrow9 hfp9 f8 hst hT8 hT9 hTwr
 generalize w9.setCell ⟨T, 6, none⟩ (.slice (some ⟨g9, 0, none⟩) 2 cp9) = y1 at *
 clear hsh hnew hsz cS
 go_wp2_with fail
 obtain ⟨q2, hq2⟩ := tok_at h0.inb
 refine (must_any [125] P g c ts st5 q2 hq2 y1 h0 HE.out).mono ?_
 rintro e y2 ⟨rfl, h0, fm⟩
 have g0 := fm.keep g0 (by simp; omega)
 have q0 := fm.keep q0 (by simp; omega)
 have F := F.trans fm
 have row := RowG.keep (ok' := fun b => B < b ∧ ¬ b = T ∧ ¬ b = P) keepsE row (Sh.of_fr fm (fun b hb hlt => ⟨hb, by simp; exact hb.2.2⟩))
 clear fm
 have rowE := RowG.keep (ok' := fun b => B < b) keepsE row (Sh.of_fr (Fr.refl [] y2) (fun b hb hlt => ⟨hb.1, fun x => by cases x⟩))
 clear row
 have hBlt := lt_of_heap g0
 have hTlt := lt_of_heap q0
 obtain ⟨⟨l0, l1, l2, l3, l4, l5, l6, l7⟩, _⟩ := cells8 q0
 obtain ⟨⟨u0_, u1, u2, u3, u4, u5, u6, u7⟩, z0, z1, z2, z3, z4, z5, z6, z7⟩ := cells8 g0
 have HG := Lib.hid (st8_heap g0 (.int .i64 13) (.int .i64 a) (.string ⟨(nameT v (mustS p st1 [119, 105, 116, 104])).toArray⟩) (.int .i64 0) (.string ⟨#[]⟩) (.slice none 0 0) (.slice (some ⟨g9, 0, none⟩) 2 cp9) (.slice none 0 0))
 have HF := Lib.hid (F.step (st8_fr y2 B (.int .i64 13) (.int .i64 a) (.string ⟨(nameT v (mustS p st1 [119, 105, 116, 104])).toArray⟩) (.int .i64 0) (.string ⟨#[]⟩) (.slice none 0 0) (.slice (some ⟨g9, 0, none⟩) 2 cp9) (.slice none 0 0)) (fun x hx => .inr (by simp at hx; omega)))
 have HP := Lib.hid (h0.frL (st8_fr y2 B (.int .i64 13) (.int .i64 a) (.string ⟨(nameT v (mustS p st1 [119, 105, 116, 104])).toArray⟩) (.int .i64 0) (.string ⟨#[]⟩) (.slice none 0 0) (.slice (some ⟨g9, 0, none⟩) 2 cp9) (.slice none 0 0)) (by simp; omega) (by simp; omega))
 have HRW0 := Lib.hid (RowG.keep (ok' := fun b => B ≤ b) keepsE rowE (Sh.of_fr (st8_fr y2 B (.int .i64 13) (.int .i64 a) (.string ⟨(nameT v (mustS p st1 [119, 105, 116, 104])).toArray⟩) (.int .i64 0) (.string ⟨#[]⟩) (.slice none 0 0) (.slice (some ⟨g9, 0, none⟩) 2 cp9) (.slice none 0 0)) (fun b hb hlt => ⟨by omega, by simp; omega⟩)))
 unfold st8 at HG HF HP HRW0
 go_wp2_with fail
 generalize (((((((y2.setCell ⟨B, 0, none⟩ (.int .i64 13)).setCell ⟨B, 1, none⟩ (.int .i64 a)).setCell ⟨B, 2, none⟩ (.string ⟨(nameT v (mustS p st1 [119, 105, 116, 104])).toArray⟩)).setCell ⟨B, 3, none⟩ (.int .i64 0)).setCell ⟨B, 4, none⟩ (.string ⟨#[]⟩)).setCell ⟨B, 5, none⟩ (.slice none 0 0)).setCell ⟨B, 6, none⟩ (.slice (some ⟨g9, 0, none⟩) 2 cp9)).setCell ⟨B, 7, none⟩ (.slice none 0 0) = Z at HG HF HP HRW0 ⊢
 obtain ⟨⟨d0, d1, d2, d3, d4, d5, d6, d7⟩, _⟩ := cells8 HG.out
 have hxx := ExprAt.of_rows (w := Z) (ok := fun b => B ≤ b) (k := 13) (a := a) (nm := nameT v (mustS p st1 [119, 105, 116, 104])) (n := 0) (s := []) (c5 := fun _ => []) RowG.nil_ HRW0.out (c7 := fun _ => []) RowG.nil_
 refine bodyPost_ret (v := .agg #[.int .i64 13, .int .i64 a, .string ⟨(nameT v (mustS p st1 [119, 105, 116, 104])).toArray⟩, .int .i64 0, .string ⟨#[]⟩, .slice none 0 0, .slice (some ⟨g9, 0, none⟩) 2 cp9, .slice none 0 0]) ?_ rfl ?_
 ·simp [results, Tryz.f112, go_sem, d0, d1, d2, d3, d4, d5, d6, d7]
 ·exact ⟨_, _, _, _, _, _, _, _, _, _, _, _, _, _, _, _, _, _, rfl, hxx.keep (Sh.of_fr (Fr.refl [] Z) (fun b hb hlt => ⟨by omega, fun x => by cases x⟩)), by unfold body; exact .may_no HT.out HB.out (.els (.ahead (by unfold aheadT; rw [← HJ.out]; exact HN_.out) (.look HT.out (by rw [if_neg (by rw [HX.out]; simp)]; exact .callE hr1 (.must_ hp (.name_ hv (.must_ hq (.callE hr2 (.must_ hq2 .retE))))))))), HP.out, HF.out⟩
end Go.Proofs.YtpjkfeehgookkaaGreatDoor
namespace Go.Proofs.YtpjkfeehgookkaaGreatDoor
open Go.RowKit
attribute [local go_sem ↓] Go.wp_at_zero Go.wp_at_succ
def LKr (a : Int) (ls : List (List UInt8)) (args : List ExprT) : Cmd := .look fun _ ok => if ok = true then .callE (.recL a ls args) .retE else mustC [125] (.retE (.mk 12 a [] 0 [] ls args []))
def ENDr (a : Int) (ls : List (List UInt8)) (args : List ExprT) : Cmd := mustC [125] (.retE (.mk 12 a [] 0 [] ls args []))
theorem LKr_no {ts : List Tok} {a : Int} {ls : List (List UInt8)} {args : List ExprT} {st st' : St} {r : Rs} {t : Tok} (ht : ts[st.i]? = some t) (hok : st.ok = false) (h : Run ts (ENDr a ls args) st r st') : Run ts (LKr a ls args) st r st' :=
 .look ht (by rw [hok, if_neg (by decide)]; exact h)
theorem recE_round {ts : List Tok} {a : Int} {ls : List (List UInt8)} {args : List ExprT} {st0 st3 : St} {y : ExprT} {u u1 v : Tok} (hu : ts[st0.i]? = some u) (hok : st0.ok = true) (hu1 : ts[(nameS u st0).i]? = some u1)
  (hs : Run ts (body .seq) (mustS u1 (nameS u st0) [61]) (.e y) st3) (hv : ts[st3.i]? = some v) {b : Bool} (hb : isB v st3.ok [[44]] = b) {z : ExprT} {st' : St}
  (h : Run ts (if b = true then LKr a (ls ++ [nameT u st0]) (args ++ [y]) else ENDr a (ls ++ [nameT u st0]) (args ++ [y])) (if b = true then ⟨st3.i + 1, st3.ok⟩ else st3) (.e z) st') : Run ts (LKr a ls args) st0 (.e z) st' := by
 refine .look hu ?_
 rw [hok, if_pos rfl]
 unfold nameS at hu1 hs
 refine .callE ?_ .retE
 unfold body
 refine .name_ hu (.must_ hu1 (.callE hs ?_))
 cases b with
 | true =>
  rw [if_pos rfl, if_pos rfl] at h
  refine .may_yes hv hb (.thn ?_)
  cases h with
  | look h1 hk =>
   have e : st3.ok = true := (isB_ok hb).1
   have hk : Run ts (if st3.ok = true then _ else _) _ _ _ := hk
   rw [e, if_pos rfl] at hk
   rw [e]
   exact hk
 | false =>
  rw [if_neg (by decide), if_neg (by decide)] at h
  exact .may_no hv hb (.els h)
set_option maxHeartbeats 16000000 in
set_option maxRecDepth 100000 in
theorem braces_rec (ts : List Tok) (hE : EndOk ts) (N : Nat) (ih : AllE ts N) (P g c : Nat) (st : St) (a : Int) (w : World) (h : PSt P g c ts st w) (hm : 16 * (ts.length - st.i) + 14 < N + 1) (t : Tok) (ht : ts[st.i]? = some t) (hb : isB t st.ok [[125]] = false) (n : Tok) (J : Nat) (hj : J = min (st.i + 1) (ts.length - 1)) (hn : ts[J]? = some n) (hk : (t.k == 1) = true) (hk7 : (n.k == 7) = true) (hx : (n.text == [61]) = true) : Calls Tryz.prog 112 #[.pointer (some ⟨P, 0, none⟩), .agg #[.int .i64 0, .int .i64 a, .string ⟨#[]⟩, .int .i64 0, .string ⟨#[]⟩, .slice none 0 0, .slice none 0 0, .slice none 0 0]] w (ExOk P g c ts st (body (.braces a)) w) := by
 have HB := Lib.hid hb
 clear hb
 have HJ := Lib.hid hj
 clear hj
 have HN_ := Lib.hid hn
 clear hn
 have HK := Lib.hid hk
 clear hk
 have HK7 := Lib.hid hk7
 clear hk7
 have HX := Lib.hid hx
 clear hx
 have HT := Lib.hid ht
 clear ht
 have IH := Lib.hid ih
 clear ih
 have H := Lib.hid h
 have hP := lt_of_heap h.blk
 have hgl := h.lt
 have hin := h.inb
 have HN := Lib.hid hm
 have HE := Lib.hid hE
 clear h hm hE
 go_enter Tryz.func112, Tryz.ntmps112
 go_wp2_with fail
 have f0 : Fr [] w ((w.alloc (.cells #[.int .i64 0, .int .i64 a, .string ⟨#[]⟩, .int .i64 0, .string ⟨#[]⟩, .slice none 0 0, .slice none 0 0, .slice none 0 0] 27)).alloc (.cells #[.int .i64 0, .int .i64 0, .string ⟨#[]⟩, .int .i64 0, .string ⟨#[]⟩, .slice none 0 0, .slice none 0 0, .slice none 0 0] 27)) := ((Fr.refl [] w).alloc _).alloc _
 have q0 := heap_old (heap_new w (.cells #[.int .i64 0, .int .i64 a, .string ⟨#[]⟩, .int .i64 0, .string ⟨#[]⟩, .slice none 0 0, .slice none 0 0, .slice none 0 0] 27)) (.cells #[.int .i64 0, .int .i64 0, .string ⟨#[]⟩, .int .i64 0, .string ⟨#[]⟩, .slice none 0 0, .slice none 0 0, .slice none 0 0] 27)
 have g0 := heap_new (w.alloc (.cells #[.int .i64 0, .int .i64 a, .string ⟨#[]⟩, .int .i64 0, .string ⟨#[]⟩, .slice none 0 0, .slice none 0 0, .slice none 0 0] 27)) (.cells #[.int .i64 0, .int .i64 0, .string ⟨#[]⟩, .int .i64 0, .string ⟨#[]⟩, .slice none 0 0, .slice none 0 0, .slice none 0 0] 27)
 have hsz : (w.alloc (.cells #[.int .i64 0, .int .i64 a, .string ⟨#[]⟩, .int .i64 0, .string ⟨#[]⟩, .slice none 0 0, .slice none 0 0, .slice none 0 0] 27)).heap.size = w.heap.size + 1 := by simp
 rw [hsz] at g0
 clear hsz
 have h0 := H.out.fr f0
 have F := f0.mono (L' := [P]) (fun x hx => by cases hx)
 generalize (w.alloc (.cells #[.int .i64 0, .int .i64 a, .string ⟨#[]⟩, .int .i64 0, .string ⟨#[]⟩, .slice none 0 0, .slice none 0 0, .slice none 0 0] 27)).alloc (.cells #[.int .i64 0, .int .i64 0, .string ⟨#[]⟩, .int .i64 0, .string ⟨#[]⟩, .slice none 0 0, .slice none 0 0, .slice none 0 0] 27) = w1 at *
 generalize hT : w.heap.size = T at *
 generalize hB : T + 1 = B at *
 have hPT : P < T := hP
 have hgT : g < T := hgl
 clear f0 hP hgl
 refine (may_no [125] P g c ts st t HT.out HB.out w1 h0 HE.out).mono ?_
 rintro e x1 ⟨rfl, fm⟩
 have g0 := fm.keep g0 (fun x => by cases x)
 have q0 := fm.keep q0 (fun x => by cases x)
 have F := F.trans0 fm
 have h0 := h0.fr fm
 clear fm
 go_wp2_with fail
 obtain ⟨p0, p1, p2, _⟩ := cells3 h0.blk
 have a0 := h0.rt.c0 _ _ HN_.out
 have a1 := h0.rt.c1 _ _ HN_.out
 have a2 := h0.rt.c2 _ _ HN_.out
 have a3 := h0.rt.c3 _ _ HN_.out
 have hPx := lt_of_heap h0.blk
 have hgx := h0.lt
 have hts := HE.out.1
 have hmin : min ((st.i : Int) + 1) ((ts.length - 1 : Nat) : Int) = (J : Int) := by have := HJ.out; omega
 have hJ1 : (0 : Int) ≤ (J : Int) := by omega
 have hJ2 : (J : Int) < (ts.length : Int) := by have := HJ.out; omega
 have w1q : IntKind.i64.wrap ((st.i : Int) + 1) = ((st.i + 1 : Nat) : Int) := (IntWalk.i64_in _ (by omega)).trans (by omega)
 have w2q : IntKind.i64.wrap ((ts.length : Int) - 1) = ((ts.length - 1 : Nat) : Int) := (IntWalk.i64_in _ (by omega)).trans (by omega)
 refine wp_region_last20 (fun w' => w'.cell? ⟨P, 0, none⟩ = some (.slice (some ⟨g, 0, none⟩) ts.length c) ∧ w'.cell? ⟨P, 1, none⟩ = some (.int .i64 (st.i : Nat)) ∧ w'.cell? ⟨g, J * 4, none⟩ = some (.int .i64 n.k) ∧ w'.cell? ⟨g, J * 4 + 1, none⟩ = some (.int .i64 n.at') ∧ w'.cell? ⟨g, J * 4 + 2, none⟩ = some (.string ⟨n.text.toArray⟩) ∧ w'.cell? ⟨g, J * 4 + 3, none⟩ = some (.int .i64 n.n)) (by kernel_rfl) (by kernel_rfl) ?hS1090 (fun K hK hHeld => ?hr1090)
 case hS1090 => go_keep
 refine held_take (i := 0) (v := ?v1091) rfl (by kernel_rfl) (by kernel_rfl) (by kernel_rfl) (fun _ _ _ h => h) (Or.inl ⟨by rfl, ?hy1091⟩) (by assumption) ?hr1091
 case hy1091 =>
  intro w' hSw
  (try dsimp only at hSw)
  go_simp
  (try with_reducible rfl)
 (try simp only [Act.put, List.setIfInBounds_toArray, List.set_cons_zero, List.set_cons_succ])
 refine held_take (i := 1) (v := ?v1092) rfl (by kernel_rfl) (by kernel_rfl) (by kernel_rfl) (fun _ _ _ h => h) (Or.inl ⟨by rfl, ?hy1092⟩) (by assumption) ?hr1092
 case hy1092 =>
  intro w' hSw
  (try dsimp only at hSw)
  go_simp
  (try with_reducible rfl)
 (try simp only [Act.put, List.setIfInBounds_toArray, List.set_cons_zero, List.set_cons_succ])
 refine held_take (i := 2) (v := ?v1093) rfl (by kernel_rfl) (by kernel_rfl) (by kernel_rfl) (fun _ _ _ h => h) (Or.inl ⟨by rfl, ?hy1093⟩) (by assumption) ?hr1093
 case hy1093 =>
  intro w' hSw
  (try dsimp only at hSw)
  go_simp
  (try with_reducible rfl)
 (try simp only [Act.put, List.setIfInBounds_toArray, List.set_cons_zero, List.set_cons_succ])
 refine held_take (i := 3) (v := ?v1094) rfl (by kernel_rfl) (by kernel_rfl) (by kernel_rfl) (fun _ _ _ h => h) (Or.inl ⟨by rfl, ?hy1094⟩) (by assumption) ?hr1094
 case hy1094 =>
  intro w' hSw
  (try dsimp only at hSw)
  go_simp
  (try with_reducible rfl)
 (try simp only [Act.put, List.setIfInBounds_toArray, List.set_cons_zero, List.set_cons_succ])
 refine held_take (i := 4) (v := ?v1095) rfl (by kernel_rfl) (by kernel_rfl) (by kernel_rfl) (fun _ _ _ h => h) (Or.inl ⟨by rfl, ?hy1095⟩) (by assumption) ?hr1095
 case hy1095 =>
  intro w' hSw
  (try dsimp only at hSw)
  go_simp
  (try with_reducible rfl)
 (try simp only [Act.put, List.setIfInBounds_toArray, List.set_cons_zero, List.set_cons_succ])
 refine held_take (i := 5) (v := ?v1096) rfl (by kernel_rfl) (by kernel_rfl) (by kernel_rfl) (fun _ _ _ h => h) (Or.inl ⟨by rfl, ?hy1096⟩) (by assumption) ?hr1096
 case hy1096 =>
  intro w' hSw
  (try dsimp only at hSw)
  go_simp
  (try with_reducible rfl)
 (try simp only [Act.put, List.setIfInBounds_toArray, List.set_cons_zero, List.set_cons_succ])
 refine held_take (i := 6) (v := ?v1097) rfl (by kernel_rfl) (by kernel_rfl) (by kernel_rfl) (fun _ _ _ h => h) (Or.inl ⟨by rfl, ?hy1097⟩) (by assumption) ?hr1097
 case hy1097 =>
  intro w' hSw
  (try dsimp only at hSw)
  go_simp
  (try with_reducible rfl)
 (try simp only [Act.put, List.setIfInBounds_toArray, List.set_cons_zero, List.set_cons_succ])
 refine held_take (i := 7) (v := ?v1098) rfl (by kernel_rfl) (by kernel_rfl) (by kernel_rfl) (fun _ _ _ h => h) (Or.inl ⟨by rfl, ?hy1098⟩) (by assumption) ?hr1098
 case hy1098 =>
  intro w' hSw
  (try dsimp only at hSw)
  go_simp
  (try with_reducible rfl)
 (try simp only [Act.put, List.setIfInBounds_toArray, List.set_cons_zero, List.set_cons_succ])
 refine held_take (i := 8) (v := ?v1099) rfl (by kernel_rfl) (by kernel_rfl) (by kernel_rfl) (fun _ _ _ h => h) (Or.inl ⟨by rfl, ?hy1099⟩) (by assumption) ?hr1099
 case hy1099 =>
  intro w' hSw
  (try dsimp only at hSw)
  go_simp
  (try with_reducible rfl)
 (try simp only [Act.put, List.setIfInBounds_toArray, List.set_cons_zero, List.set_cons_succ])
 refine held_take (i := 9) (v := ?v1100) rfl (by kernel_rfl) (by kernel_rfl) (by kernel_rfl) (fun _ _ _ h => h) (Or.inl ⟨by rfl, ?hy1100⟩) (by assumption) ?hr1100
 case hy1100 =>
  intro w' hSw
  (try dsimp only at hSw)
  go_simp
  (try with_reducible rfl)
 (try simp only [Act.put, List.setIfInBounds_toArray, List.set_cons_zero, List.set_cons_succ])
 refine held_take (i := 10) (v := ?v1101) rfl (by kernel_rfl) (by kernel_rfl) (by kernel_rfl) (fun _ _ _ h => h) (Or.inl ⟨by rfl, ?hy1101⟩) (by assumption) ?hr1101
 case hy1101 =>
  intro w' hSw
  (try dsimp only at hSw)
  go_simp
  (try with_reducible rfl)
 (try simp only [Act.put, List.setIfInBounds_toArray, List.set_cons_zero, List.set_cons_succ])
 refine held_take (i := 11) (v := ?v1102) rfl (by kernel_rfl) (by kernel_rfl) (by kernel_rfl) (fun _ _ _ h => h) (Or.inl ⟨by rfl, ?hy1102⟩) (by assumption) ?hr1102
 case hy1102 =>
  intro w' hSw
  (try dsimp only at hSw)
  go_simp
  (try with_reducible rfl)
 (try simp only [Act.put, List.setIfInBounds_toArray, List.set_cons_zero, List.set_cons_succ])
 refine held_take (i := 12) (v := ?v1103) rfl (by kernel_rfl) (by kernel_rfl) (by kernel_rfl) (fun _ _ _ h => h) (Or.inl ⟨by rfl, ?hy1103⟩) (by assumption) ?hr1103
 case hy1103 =>
  intro w' hSw
  (try dsimp only at hSw)
  go_simp
  (try with_reducible rfl)
 (try simp only [Act.put, List.setIfInBounds_toArray, List.set_cons_zero, List.set_cons_succ])
 refine held_take (i := 13) (v := ?v1104) rfl (by kernel_rfl) (by kernel_rfl) (by kernel_rfl) (fun _ _ _ h => h) (Or.inl ⟨by rfl, ?hy1104⟩) (by assumption) ?hr1104
 case hy1104 =>
  intro w' hSw
  (try dsimp only at hSw)
  go_simp
  (try with_reducible rfl)
 (try simp only [Act.put, List.setIfInBounds_toArray, List.set_cons_zero, List.set_cons_succ])
 refine held_take (i := 14) (v := ?v1105) rfl (by kernel_rfl) (by kernel_rfl) (by kernel_rfl) (fun _ _ _ h => h) (Or.inl ⟨by rfl, ?hy1105⟩) (by assumption) ?hr1105
 case hy1105 =>
  intro w' hSw
  (try dsimp only at hSw)
  go_simp
  (try with_reducible rfl)
 (try simp only [Act.put, List.setIfInBounds_toArray, List.set_cons_zero, List.set_cons_succ])
 refine held_take (i := 15) (v := ?v1106) rfl (by kernel_rfl) (by kernel_rfl) (by kernel_rfl) (fun _ _ _ h => h) (Or.inl ⟨by rfl, ?hy1106⟩) (by assumption) ?hr1106
 case hy1106 =>
  intro w' hSw
  (try dsimp only at hSw)
  go_simp
  (try with_reducible rfl)
 (try simp only [Act.put, List.setIfInBounds_toArray, List.set_cons_zero, List.set_cons_succ])
 refine held_take (i := 16) (v := ?v1107) rfl (by kernel_rfl) (by kernel_rfl) (by kernel_rfl) (fun _ _ _ h => h) (Or.inl ⟨by rfl, ?hy1107⟩) (by assumption) ?hr1107
 case hy1107 =>
  intro w' hSw
  (try dsimp only at hSw)
  go_simp
  (try with_reducible rfl)
 (try simp only [Act.put, List.setIfInBounds_toArray, List.set_cons_zero, List.set_cons_succ])
 refine held_take (i := 17) (v := ?v1108) rfl (by kernel_rfl) (by kernel_rfl) (by kernel_rfl) (fun _ _ _ h => h) (Or.inl ⟨by rfl, ?hy1108⟩) (by assumption) ?hr1108
 case hy1108 =>
  intro w' hSw
  (try dsimp only at hSw)
  go_simp
  (try with_reducible rfl)
 (try simp only [Act.put, List.setIfInBounds_toArray, List.set_cons_zero, List.set_cons_succ])
 refine held_step (i := 18) rfl (by kernel_rfl) (fun K18 hK18 => ?hr1109)
 go_simp
 refine hK18.out _ _ ?hS1109 (fun hHeld => ?hq1109)
 case hS1109 => go_keep
 clear hK18 K18
 (try simp only [Act.put, List.setIfInBounds_toArray, List.set_cons_zero, List.set_cons_succ])
 refine wpAnyH_done (by kernel_rfl) ?hr1110 _
 refine thenLast_run rfl ?hq1110
 go_simp
 refine hK.out _ _ ?hs1110
 clear hK K
 clear p0 p1 p2 a0 a1 a2 a3 hHeld hmin hJ1 hJ2 w1q w2q
 have fd : Fr [] x1 ((x1.alloc (.cells #[.int .i64 n.k, .int .i64 n.at', .string ⟨n.text.toArray⟩, .int .i64 n.n] 46)).drew) := ((Fr.refl [] x1).alloc _).drew
 have q5 : ((x1.alloc (.cells #[.int .i64 n.k, .int .i64 n.at', .string ⟨n.text.toArray⟩, .int .i64 n.n] 46)).drew).heap[x1.heap.size]? = some (.cells #[.int .i64 n.k, .int .i64 n.at', .string ⟨n.text.toArray⟩, .int .i64 n.n] 46 (0, 0)) := heap_new x1 (.cells #[.int .i64 n.k, .int .i64 n.at', .string ⟨n.text.toArray⟩, .int .i64 n.n] 46)
 have hBx1 := lt_of_heap g0
 have hTx1 := lt_of_heap q0
 have g0 := fd.keep g0 (fun x => by cases x)
 have q0 := fd.keep q0 (fun x => by cases x)
 have h0 := h0.fr fd
 have F := F.trans0 fd
 generalize (x1.alloc (.cells #[.int .i64 n.k, .int .i64 n.at', .string ⟨n.text.toArray⟩, .int .i64 n.n] 46)).drew = x2 at *
 generalize x1.heap.size = TN at *
 clear fd
 go_wp2_with fail
 refine (now_any P g c ts st t HT.out x2 h0 HE.out).mono ?_
 rintro e x3 ⟨rfl, f3⟩
 have g0 := f3.keep g0 (fun x => by cases x)
 have q0 := f3.keep q0 (fun x => by cases x)
 have q5 := f3.keep q5 (fun x => by cases x)
 have h0 := h0.fr f3
 have F := F.trans0 f3
 have r0 := tok_f0
 have hTN := lt_of_heap q5
 obtain ⟨y0, y1, y2, y3, _⟩ := cells4 q5
 clear f3
 have hk := HK.out
 have hk7 := HK7.out
 have hx := HX.out
 obtain ⟨⟨m0, m1, m2, m3, m4, m5, m6, m7⟩, j0, j1, j2, j3, j4, j5, j6, j7⟩ := cells8 q0
 have hTx := lt_of_heap q0
 have q1 : (x3.setCell ⟨T, 0, none⟩ (.int .i64 12)).heap[T]? = some (.cells #[.int .i64 12, .int .i64 a, .string ⟨#[]⟩, .int .i64 0, .string ⟨#[]⟩, .slice none 0 0, .slice none 0 0, .slice none 0 0] 27 (0, 0)) := set_at q0 0 _
 have fs := (Fr.refl [T] x3).setCell (p := ⟨T, 0, none⟩) (.inl (by simp)) (.int .i64 12)
 have g0 := fs.keep g0 (by simp; omega)
 have h0 := h0.frL fs (by simp; omega) (by simp; omega)
 have F := F.step fs (fun x hx => .inr (by simp at hx; omega))
 have HQ := Lib.hid q1
 clear q0 q1 fs
 go_wp2_with fail
 clear m0 m1 m2 m3 m4 m5 m6 m7 j0 j1 j2 j3 j4 j5 j6 j7
 have q0 := HQ.out
 clear HQ
 generalize x3.setCell ⟨T, 0, none⟩ (.int .i64 12) = x3n at *
 clear y0 y1 y2 y3 q5 r0 hk hk7 hx
 obtain ⟨i0s, his, hz0s, hz1s, hz2s⟩ := info_parts infoStr
 have HIs := Lib.hid his
 have HZ0s := Lib.hid hz0s
 have HZ1s := Lib.hid hz1s
 have HZ2s := Lib.hid hz2s
 clear his hz0s hz1s hz2s
 obtain ⟨i0e, hie, hz0e, hz1e, hz2e⟩ := info_parts infoExpr
 have HIe := Lib.hid hie
 have HZ0e := Lib.hid hz0e
 have HZ1e := Lib.hid hz1e
 have HZ2e := Lib.hid hz2e
 clear hie hz0e hz1e hz2e
 have HR0 : Hid (∀ x' st', Run ts (if true = true then LKr a [] [] else ENDr a [] []) st (.e x') st' → Run ts (body (.braces a)) st (.e x') st') := Lib.hid (fun x' st' h => by
  (first | rw [if_pos rfl] at h | rw [if_pos trivial] at h)
  unfold body
  refine .may_no HT.out HB.out (.els (.ahead (by unfold aheadT; rw [← HJ.out]; exact HN_.out) (.look HT.out ?_)))
  rw [HK.out, HK7.out, HX.out, if_pos (by rfl)]
  cases h with
  | look h1 hk => exact hk)
 go_loopw [6] (fun mv wr => ∃ (b : Bool) (ls : List (List UInt8)) (args : List ExprT) (v5 v6 : Value) (c5 c6 : Nat → List Value) (st0 : St), mv = .bool b ∧ Fr [P] w wr ∧ wr.heap[B]? = some (.cells #[.int .i64 0, .int .i64 0, .string ⟨#[]⟩, .int .i64 0, .string ⟨#[]⟩, .slice none 0 0, .slice none 0 0, .slice none 0 0] 27 (0, 0)) ∧ wr.heap[T]? = some (.cells #[.int .i64 12, .int .i64 a, .string ⟨#[]⟩, .int .i64 0, .string ⟨#[]⟩, v5, v6, .slice none 0 0] 27 (0, 0)) ∧ RowS wr (fun b => (B < b ∧ ¬ b = T ∧ ¬ b = P) ∧ (v6).ownBlock ≠ some b) v5 ls c5 ∧ RowE wr (fun b => (B < b ∧ ¬ b = T ∧ ¬ b = P) ∧ (v5).ownBlock ≠ some b) v6 args c6 ∧ PSt P g c ts st0 wr ∧ st.i ≤ st0.i ∧ ls.length ≤ st0.i + (if b = true then 0 else 1) ∧ args.length = ls.length ∧ Hid (∀ x' st', Run ts (if b = true then LKr a ls args else ENDr a ls args) st0 (.e x') st' → Run ts (body (.braces a)) st (.e x') st')) (fun mv wr => 2 * (ts.length - plI wr P) + (match mv with | .bool true => 1 | _ => 0))
 case atStart => exact ⟨true, [], [], .slice none 0 0, .slice none 0 0, fun _ => [], fun _ => [], _, rfl, F, g0, q0, RowG.nil_, RowG.nil_, h0, by omega, by simp, rfl, HR0⟩
 case round =>
  obtain ⟨b, ls, args, v5, v6, c5, c6, st0, rfl, F, g0, q0, rowS, rowE, h0, hle0, hacc, hal, HR⟩ := hrel
  clear HR0
  cases b with
  | false =>
   go_wp2_with fail
   have hform5 : ∃ A n0 cc, v5 = .slice A n0 cc := by
    rcases rowS.own.2 with ⟨hv, _⟩ | ⟨g', cap, cur, hv, _⟩
    ·exact ⟨_, _, _, hv⟩
    ·exact ⟨_, _, _, hv⟩
   obtain ⟨A5, n5, cc5, rfl⟩ := hform5
   have hform6 : ∃ A n0 cc, v6 = .slice A n0 cc := by
    rcases rowE.own.2 with ⟨hv, _⟩ | ⟨g', cap, cur, hv, _⟩
    ·exact ⟨_, _, _, hv⟩
    ·exact ⟨_, _, _, hv⟩
   obtain ⟨A6, n6, cc6, rfl⟩ := hform6
   obtain ⟨u, hu⟩ := tok_at h0.inb
   refine (must_any [125] P g c ts st0 u hu wr h0 HE.out).mono ?_
   rintro e y1 ⟨rfl, h0, fm⟩
   have g0 := fm.keep g0 (by simp; omega)
   have q0 := fm.keep q0 (by simp; omega)
   have F := F.trans fm
   have rowE := RowG.keep (ok' := fun b => B < b) keepsE rowE (Sh.of_fr fm (fun b hb hlt => ⟨hb.1.1, by simp; exact hb.1.2.2⟩))
   have rowS := RowG.keep (ok' := fun b => B < b) keepsS rowS (Sh.of_fr fm (fun b hb hlt => ⟨hb.1.1, by simp; exact hb.1.2.2⟩))
   have hBlt := lt_of_heap g0
   have hTlt := lt_of_heap q0
   obtain ⟨⟨l0, l1, l2, l3, l4, l5, l6, l7⟩, _⟩ := cells8 q0
   obtain ⟨⟨u0_, u1, u2, u3, u4, u5, u6, u7⟩, z0, z1, z2, z3, z4, z5, z6, z7⟩ := cells8 g0
   clear fm
   have HG := Lib.hid (st8_heap g0 (.int .i64 12) (.int .i64 a) (.string ⟨#[]⟩) (.int .i64 0) (.string ⟨#[]⟩) (.slice A5 n5 cc5) (.slice A6 n6 cc6) (.slice none 0 0))
   have HF := Lib.hid (F.step (st8_fr y1 B (.int .i64 12) (.int .i64 a) (.string ⟨#[]⟩) (.int .i64 0) (.string ⟨#[]⟩) (.slice A5 n5 cc5) (.slice A6 n6 cc6) (.slice none 0 0)) (fun x hx => .inr (by simp at hx; omega)))
   have HP := Lib.hid (h0.frL (st8_fr y1 B (.int .i64 12) (.int .i64 a) (.string ⟨#[]⟩) (.int .i64 0) (.string ⟨#[]⟩) (.slice A5 n5 cc5) (.slice A6 n6 cc6) (.slice none 0 0)) (by simp; omega) (by simp; omega))
   have HRW0 := Lib.hid (RowG.keep (ok' := fun b => B ≤ b) keepsE rowE (Sh.of_fr (st8_fr y1 B (.int .i64 12) (.int .i64 a) (.string ⟨#[]⟩) (.int .i64 0) (.string ⟨#[]⟩) (.slice A5 n5 cc5) (.slice A6 n6 cc6) (.slice none 0 0)) (fun b hb hlt => ⟨by omega, by simp; omega⟩)))
   have HRW1 := Lib.hid (RowG.keep (ok' := fun b => B ≤ b) keepsS rowS (Sh.of_fr (st8_fr y1 B (.int .i64 12) (.int .i64 a) (.string ⟨#[]⟩) (.int .i64 0) (.string ⟨#[]⟩) (.slice A5 n5 cc5) (.slice A6 n6 cc6) (.slice none 0 0)) (fun b hb hlt => ⟨by omega, by simp; omega⟩)))
   unfold st8 at HG HF HP HRW0 HRW1
   go_wp2_with fail
   generalize (((((((y1.setCell ⟨B, 0, none⟩ (.int .i64 12)).setCell ⟨B, 1, none⟩ (.int .i64 a)).setCell ⟨B, 2, none⟩ (.string ⟨#[]⟩)).setCell ⟨B, 3, none⟩ (.int .i64 0)).setCell ⟨B, 4, none⟩ (.string ⟨#[]⟩)).setCell ⟨B, 5, none⟩ (.slice A5 n5 cc5)).setCell ⟨B, 6, none⟩ (.slice A6 n6 cc6)).setCell ⟨B, 7, none⟩ (.slice none 0 0) = Z at HG HF HP HRW0 HRW1 ⊢
   obtain ⟨⟨d0, d1, d2, d3, d4, d5, d6, d7⟩, _⟩ := cells8 HG.out
   have hxx := ExprAt.of_rows (w := Z) (ok := fun b => B ≤ b) (k := 12) (a := a) (nm := []) (n := 0) (s := []) HRW1.out HRW0.out (c7 := fun _ => []) RowG.nil_
   refine bodyPost_ret (v := .agg #[.int .i64 12, .int .i64 a, .string ⟨#[]⟩, .int .i64 0, .string ⟨#[]⟩, .slice A5 n5 cc5, .slice A6 n6 cc6, .slice none 0 0]) ?_ rfl ?_
   ·simp [results, Tryz.f112, go_sem, d0, d1, d2, d3, d4, d5, d6, d7]
   ·exact ⟨_, _, _, _, _, _, _, _, _, _, _, _, _, _, _, _, _, _, rfl, hxx.keep (Sh.of_fr (Fr.refl [] Z) (fun b hb hlt => ⟨by omega, fun x => by cases x⟩)), HR.out _ _ (by (first | rw [if_neg (by decide)] | rw [if_neg id]); exact .must_ hu .retE), HP.out, HF.out⟩
  | true =>
   obtain ⟨p0, p1, p2, _⟩ := cells3 h0.blk
   have hPw := lt_of_heap h0.blk
   cases hok : st0.ok with
   | false =>
    rw [hok] at p2
    have HOK := Lib.hid hok
    clear hok
    go_wp2_with fail
    clear p0 p1 p2
    have hform5 : ∃ A n0 cc, v5 = .slice A n0 cc := by
     rcases rowS.own.2 with ⟨hv, _⟩ | ⟨g', cap, cur, hv, _⟩
     ·exact ⟨_, _, _, hv⟩
     ·exact ⟨_, _, _, hv⟩
    obtain ⟨A5, n5, cc5, rfl⟩ := hform5
    have hform6 : ∃ A n0 cc, v6 = .slice A n0 cc := by
     rcases rowE.own.2 with ⟨hv, _⟩ | ⟨g', cap, cur, hv, _⟩
     ·exact ⟨_, _, _, hv⟩
     ·exact ⟨_, _, _, hv⟩
    obtain ⟨A6, n6, cc6, rfl⟩ := hform6
    obtain ⟨u, hu⟩ := tok_at h0.inb
    refine (must_any [125] P g c ts st0 u hu wr h0 HE.out).mono ?_
    rintro e y1 ⟨rfl, h0, fm⟩
    have g0 := fm.keep g0 (by simp; omega)
    have q0 := fm.keep q0 (by simp; omega)
    have F := F.trans fm
    have rowE := RowG.keep (ok' := fun b => B < b) keepsE rowE (Sh.of_fr fm (fun b hb hlt => ⟨hb.1.1, by simp; exact hb.1.2.2⟩))
    have rowS := RowG.keep (ok' := fun b => B < b) keepsS rowS (Sh.of_fr fm (fun b hb hlt => ⟨hb.1.1, by simp; exact hb.1.2.2⟩))
    have hBlt := lt_of_heap g0
    have hTlt := lt_of_heap q0
    obtain ⟨⟨l0, l1, l2, l3, l4, l5, l6, l7⟩, _⟩ := cells8 q0
    obtain ⟨⟨u0_, u1, u2, u3, u4, u5, u6, u7⟩, z0, z1, z2, z3, z4, z5, z6, z7⟩ := cells8 g0
    clear fm
    have HG := Lib.hid (st8_heap g0 (.int .i64 12) (.int .i64 a) (.string ⟨#[]⟩) (.int .i64 0) (.string ⟨#[]⟩) (.slice A5 n5 cc5) (.slice A6 n6 cc6) (.slice none 0 0))
    have HF := Lib.hid (F.step (st8_fr y1 B (.int .i64 12) (.int .i64 a) (.string ⟨#[]⟩) (.int .i64 0) (.string ⟨#[]⟩) (.slice A5 n5 cc5) (.slice A6 n6 cc6) (.slice none 0 0)) (fun x hx => .inr (by simp at hx; omega)))
    have HP := Lib.hid (h0.frL (st8_fr y1 B (.int .i64 12) (.int .i64 a) (.string ⟨#[]⟩) (.int .i64 0) (.string ⟨#[]⟩) (.slice A5 n5 cc5) (.slice A6 n6 cc6) (.slice none 0 0)) (by simp; omega) (by simp; omega))
    have HRW0 := Lib.hid (RowG.keep (ok' := fun b => B ≤ b) keepsE rowE (Sh.of_fr (st8_fr y1 B (.int .i64 12) (.int .i64 a) (.string ⟨#[]⟩) (.int .i64 0) (.string ⟨#[]⟩) (.slice A5 n5 cc5) (.slice A6 n6 cc6) (.slice none 0 0)) (fun b hb hlt => ⟨by omega, by simp; omega⟩)))
    have HRW1 := Lib.hid (RowG.keep (ok' := fun b => B ≤ b) keepsS rowS (Sh.of_fr (st8_fr y1 B (.int .i64 12) (.int .i64 a) (.string ⟨#[]⟩) (.int .i64 0) (.string ⟨#[]⟩) (.slice A5 n5 cc5) (.slice A6 n6 cc6) (.slice none 0 0)) (fun b hb hlt => ⟨by omega, by simp; omega⟩)))
    unfold st8 at HG HF HP HRW0 HRW1
    go_wp2_with fail
    generalize (((((((y1.setCell ⟨B, 0, none⟩ (.int .i64 12)).setCell ⟨B, 1, none⟩ (.int .i64 a)).setCell ⟨B, 2, none⟩ (.string ⟨#[]⟩)).setCell ⟨B, 3, none⟩ (.int .i64 0)).setCell ⟨B, 4, none⟩ (.string ⟨#[]⟩)).setCell ⟨B, 5, none⟩ (.slice A5 n5 cc5)).setCell ⟨B, 6, none⟩ (.slice A6 n6 cc6)).setCell ⟨B, 7, none⟩ (.slice none 0 0) = Z at HG HF HP HRW0 HRW1 ⊢
    obtain ⟨⟨d0, d1, d2, d3, d4, d5, d6, d7⟩, _⟩ := cells8 HG.out
    have hxx := ExprAt.of_rows (w := Z) (ok := fun b => B ≤ b) (k := 12) (a := a) (nm := []) (n := 0) (s := []) HRW1.out HRW0.out (c7 := fun _ => []) RowG.nil_
    refine bodyPost_ret (v := .agg #[.int .i64 12, .int .i64 a, .string ⟨#[]⟩, .int .i64 0, .string ⟨#[]⟩, .slice A5 n5 cc5, .slice A6 n6 cc6, .slice none 0 0]) ?_ rfl ?_
    ·simp [results, Tryz.f112, go_sem, d0, d1, d2, d3, d4, d5, d6, d7]
    ·exact ⟨_, _, _, _, _, _, _, _, _, _, _, _, _, _, _, _, _, _, rfl, hxx.keep (Sh.of_fr (Fr.refl [] Z) (fun b hb hlt => ⟨by omega, fun x => by cases x⟩)), HR.out _ _ (by (first | rw [if_pos rfl] | rw [if_pos trivial]); exact LKr_no hu HOK.out (.must_ hu .retE)), HP.out, HF.out⟩
   | true =>
    rw [hok] at p2
    have HOK := Lib.hid hok
    clear hok
    have HR1 := HR
    clear HR
    obtain ⟨u, hu⟩ := tok_at h0.inb
    have HPL := Lib.hid h0.pl
    have HLE0 := Lib.hid hle0
    have HAL := Lib.hid hal
    have HACC := Lib.hid hacc
    have HLEN : Hid (ls.length ≤ 4097) := Lib.hid (by have h1 := hacc; simp at h1; have h2 := HE.out.1; have h3 := h0.inb; omega)
    clear hacc hle0 hal
    have X6 : ∀ gg, v6.ownBlock = some gg → gg < wr.heap.size := fun gg hg => rowE.own_lt gg hg
    clear p0 p1
    obtain ⟨⟨l0, l1, l2, l3, l4, l5, l6, l7⟩, _⟩ := cells8 q0
    have hTwr := lt_of_heap q0
    have ROWH := Lib.hid rowS
    clear rowS
    go_wp2_with fail
    clear p2
    refine wp_region_last8 (fun w' => w'.cell? ⟨T, 5, none⟩ = some (v5)) (by kernel_rfl) (by kernel_rfl) ?hS1111 (fun K hK hHeld => ?hr1111)
    case hS1111 => go_keep
    refine held_take (i := 0) (v := ?v1112) rfl (by kernel_rfl) (by kernel_rfl) (by kernel_rfl) (fun _ _ _ h => h) (Or.inl ⟨by rfl, ?hy1112⟩) (by assumption) ?hr1112
    case hy1112 =>
     intro w' hSw
     (try dsimp only at hSw)
     go_simp
     (try with_reducible rfl)
    (try simp only [Act.put, List.setIfInBounds_toArray, List.set_cons_zero, List.set_cons_succ])
    refine held_take (i := 1) (v := ?v1113) rfl (by kernel_rfl) (by kernel_rfl) (by kernel_rfl) (fun _ _ _ h => h) (Or.inl ⟨by rfl, ?hy1113⟩) (by assumption) ?hr1113
    case hy1113 =>
     intro w' hSw
     (try dsimp only at hSw)
     go_simp
     (try with_reducible rfl)
    (try simp only [Act.put, List.setIfInBounds_toArray, List.set_cons_zero, List.set_cons_succ])
    refine held_take (i := 2) (v := ?v1114) rfl (by kernel_rfl) (by kernel_rfl) (by kernel_rfl) (fun _ _ _ h => h) (Or.inl ⟨by rfl, ?hy1114⟩) (by assumption) ?hr1114
    case hy1114 =>
     intro w' hSw
     (try dsimp only at hSw)
     go_simp
     (try with_reducible rfl)
    (try simp only [Act.put, List.setIfInBounds_toArray, List.set_cons_zero, List.set_cons_succ])
    refine held_step (i := 3) rfl (by kernel_rfl) (fun K3 hK3 => ?hr1115)
    go_simp
    refine (name_any P g c ts st0 u hu _ (h0.fr (Fr.refl [] wr).drew) HE.out).mono ?_
    rintro e x8 ⟨rfl, hst, f8⟩
    have hxn : StrE x8 (fun b => wr.heap.size ≤ b) (nameT u st0) [.string ⟨(nameT u st0).toArray⟩] := rfl
    have Q8 := f8.keep (w := wr.drew) q0 (by simp; omega)
    have hT8 := lt_of_heap Q8
    have ROW9 := RowG.keep (w' := x8.alloc (.cells #[.string ⟨(nameT u st0).toArray⟩] 9)) (ok' := fun b => (B < b ∧ ¬ b = T ∧ ¬ b = P) ∧ (v6).ownBlock ≠ some b) keepsS ROWH.out (Sh.of_fr (((Fr.refl [P] wr).drew.trans f8).alloc _) (fun b hb hlt => ⟨hb, by simp; exact hb.1.2.2⟩))
    go_simp
    refine hK3.out _ _ ?hS1115 (fun hHeld => ?hq1115)
    case hS1115 => exact (cells8 Q8).1.2.2.2.2.2.1
    clear hK3 K3
    (try simp only [Act.put, List.setIfInBounds_toArray, List.set_cons_zero, List.set_cons_succ])
    refine held_step (i := 4) rfl (by kernel_rfl) (fun K4 hK4 => ?hr1116)
    go_simp
    refine hK4.out _ _ ?hS1116 (fun hHeld => ?hq1116)
    case hS1116 => exact cell_of (heap_old Q8 _) 5
    clear hK4 K4
    (try simp only [Act.put, List.setIfInBounds_toArray, List.set_cons_zero, List.set_cons_succ])
    refine held_step (i := 5) rfl (by kernel_rfl) (fun K5 hK5 => ?hr1117)
    refine step_append_fp (by rfl) _ _ 23 (by rfl) 9 i0s _ 1 16 Tryz.underlying23 HIs.out HZ0s.out HZ1s.out HZ2s.out rfl (by decide) (v5) (ls.length) (flatN c5 (ls.length)) (by rfl) ROW9.own ⟨x8.heap.size, 0, none⟩ 1 1 [.string ⟨(nameT u st0).toArray⟩] (by rfl) rfl (World.news_of_block (heap_new x8 _)) (by simp [Value.oneCell']) (by simp only [maxLen]; have := HLEN.out; have := HAL.out; omega) (by have := HLEN.out; have := HAL.out; omega) ?_
    intro v9 w9 hown9 hgrow9 hfp9
    obtain ⟨g9, cp9, hv9⟩ : ∃ g cap, v9 = .slice (some ⟨g, 0, none⟩) (ls.length + 1) cap := own_form hown9
    subst hv9
    have Q9 := (hgrow9.block T (lt_of_heap (heap_old Q8 (.cells #[.string ⟨(nameT u st0).toArray⟩] 9))) (fun e => (ROWH.out.blk T e.symm).1.2.1 rfl)).trans (heap_old Q8 (.cells #[.string ⟨(nameT u st0).toArray⟩] 9))
    have hT9 := lt_of_heap Q9
    obtain ⟨⟨u0, u1, u2, u3, u4, u5, u6, u7⟩, z0, z1, z2, z3, z4, z5, z6, z7⟩ := cells8 Q9
    refine hK5.out _ _ ?hS1117 (fun hHeld => ?hq1117)
    case hS1117 => exact u5
    clear hK5 K5
    (try simp only [Act.put, List.setIfInBounds_toArray, List.set_cons_zero, List.set_cons_succ])
    refine held_take (i := 6) (v := ?v1118) rfl (by kernel_rfl) (by kernel_rfl) (by kernel_rfl) (fun _ _ _ h => h) (Or.inl ⟨by rfl, ?hy1118⟩) (by assumption) ?hr1118
    case hy1118 =>
     intro w' hSw
     (try dsimp only at hSw)
     go_simp
     (try with_reducible rfl)
    (try simp only [Act.put, List.setIfInBounds_toArray, List.set_cons_zero, List.set_cons_succ])
    refine wpAnyH_done (by kernel_rfl) ?hr1119 _
    refine thenLast_run rfl ?hq1119
    go_simp
    refine hK.out _ _ ?hs1119
    clear hK K
    clear l0 l1 l2 l3 l4 l5 l6 l7 u0 u1 u2 u3 u4 u5 u6 u7 z0 z1 z2 z3 z4 z5 z6 z7
    have f8 : Fr [P] wr x8 := ((Fr.refl [P] wr).drew).trans f8
    have rowS := ROWH.out
    obtain ⟨F, g0, q0, h0, rowS, hsh, hnew, hsz⟩ := app_after_g (fld := 5) (size := 1) keepsS f8 hxn rfl hst g0 q0 rowS (fun b hb => ⟨hb.1.2.1, hb.1.2.2, by have := hb.1.1; omega, by have := hb.1.1; omega⟩) (fun b hb => ⟨⟨by have := lt_of_heap g0; omega, by have := lt_of_heap q0; omega, by have := lt_of_heap g0; omega⟩, fun e => by have := X6 b e; omega⟩) (fun b hb => by have := hb.1.1; omega) F (by omega) (by omega) (by omega) (by omega) (by omega) (by omega) (by omega) hown9 hgrow9 hfp9 (VV' := #[.int .i64 12, .int .i64 a, .string ⟨#[]⟩, .int .i64 0, .string ⟨#[]⟩, .slice (some ⟨g9, 0, none⟩) (ls.length + 1) cp9, v6, .slice none 0 0]) rfl
    have rowE := RowG.keep (ok' := fun b => (B < b ∧ ¬ b = T ∧ ¬ b = P) ∧ (Value.slice (some ⟨g9, 0, none⟩) (ls.length + 1) cp9).ownBlock ≠ some b) keepsE rowE (fun b hb hlt => ⟨⟨hb.1, fun e => (hnew b e).elim hb.2 (fun h => by omega)⟩, hsh b hlt hb.1.2.1 hb.1.2.2 hb.2⟩)
    clear hsh hnew
    clear ROWH ROW9 Q8 Q9 hown9 hgrow9 hfp9 f8 hst hT8 hT9 hTwr
    generalize w9.setCell ⟨T, 5, none⟩ (.slice (some ⟨g9, 0, none⟩) (ls.length + 1) cp9) = w1_ at *
    clear X6 hsz
    go_wp2_with fail
    obtain ⟨u1, hu1⟩ := tok_at h0.inb
    refine (must_any [61] P g c ts (nameS u st0) u1 hu1 w1_ h0 HE.out).mono ?_
    rintro e w2_ ⟨rfl, h0, fm⟩
    have g0 := fm.keep g0 (by simp; omega)
    have q0 := fm.keep q0 (by simp; omega)
    have F := F.trans fm
    have rowE := RowG.keep (ok' := fun b => (B < b ∧ ¬ b = T ∧ ¬ b = P) ∧ (Value.slice (some ⟨g9, 0, none⟩) (ls.length + 1) cp9).ownBlock ≠ some b) keepsE rowE (Sh.of_fr fm (fun b hb hlt => ⟨hb, by simp; exact hb.1.2.2⟩))
    have rowS := RowG.keep (ok' := fun b => (B < b ∧ ¬ b = T ∧ ¬ b = P) ∧ (v6).ownBlock ≠ some b) keepsS rowS (Sh.of_fr fm (fun b hb hlt => ⟨hb, by simp; exact hb.1.2.2⟩))
    clear fm
    have hle3 := nameS_le2 u st0
    have hle4 := mustS_le u1 (nameS u st0) [61]
    have cS := fun W hW => Lib.hid (IH.out.seq P g c (mustS u1 (nameS u st0) [61]) W hW (by have := HN.out; have := h0.inb; have := HLE0.out; omega))
    have X5 : ∀ gg, (Value.slice (some ⟨g9, 0, none⟩) (ls.length + 1) cp9).ownBlock = some gg → gg < w2_.heap.size := fun gg hg => rowS.own_lt gg hg
    obtain ⟨⟨l0, l1, l2, l3, l4, l5, l6, l7⟩, _⟩ := cells8 q0
    have hTwr := lt_of_heap q0
    have ROWH := Lib.hid rowE
    clear rowE
    go_wp2_with fail
    refine wp_region_last8 (fun w' => w'.cell? ⟨T, 6, none⟩ = some (v6)) (by kernel_rfl) (by kernel_rfl) ?hS1120 (fun K hK hHeld => ?hr1120)
    case hS1120 => go_keep
    refine held_take (i := 0) (v := ?v1121) rfl (by kernel_rfl) (by kernel_rfl) (by kernel_rfl) (fun _ _ _ h => h) (Or.inl ⟨by rfl, ?hy1121⟩) (by assumption) ?hr1121
    case hy1121 =>
     intro w' hSw
     (try dsimp only at hSw)
     go_simp
     (try with_reducible rfl)
    (try simp only [Act.put, List.setIfInBounds_toArray, List.set_cons_zero, List.set_cons_succ])
    refine held_take (i := 1) (v := ?v1122) rfl (by kernel_rfl) (by kernel_rfl) (by kernel_rfl) (fun _ _ _ h => h) (Or.inl ⟨by rfl, ?hy1122⟩) (by assumption) ?hr1122
    case hy1122 =>
     intro w' hSw
     (try dsimp only at hSw)
     go_simp
     (try with_reducible rfl)
    (try simp only [Act.put, List.setIfInBounds_toArray, List.set_cons_zero, List.set_cons_succ])
    refine held_take (i := 2) (v := ?v1123) rfl (by kernel_rfl) (by kernel_rfl) (by kernel_rfl) (fun _ _ _ h => h) (Or.inl ⟨by rfl, ?hy1123⟩) (by assumption) ?hr1123
    case hy1123 =>
     intro w' hSw
     (try dsimp only at hSw)
     go_simp
     (try with_reducible rfl)
    (try simp only [Act.put, List.setIfInBounds_toArray, List.set_cons_zero, List.set_cons_succ])
    refine held_step (i := 3) rfl (by kernel_rfl) (fun K3 hK3 => ?hr1124)
    go_simp
    refine (cS _ (h0.fr (Fr.refl [] w2_).drew)).out.mono ?_
    rintro e x8 ⟨k3, a3, nm3, n3, s3, ls3, args3, arms3, A53, n53, c53, A63, n63, c63, A73, n73, c73, st4, rfl, hx3, hr3, hst4, f8⟩
    have hst := hst4
    have Q8 := f8.keep (w := w2_.drew) q0 (by simp; omega)
    have hT8 := lt_of_heap Q8
    have ROW9 := RowG.keep (w' := x8.alloc (.cells #[.int .i64 k3, .int .i64 a3, .string ⟨nm3.toArray⟩, .int .i64 n3, .string ⟨s3.toArray⟩, .slice A53 n53 c53, .slice A63 n63 c63, .slice A73 n73 c73] 27)) (ok' := fun b => (B < b ∧ ¬ b = T ∧ ¬ b = P) ∧ (Value.slice (some ⟨g9, 0, none⟩) (ls.length + 1) cp9).ownBlock ≠ some b) keepsE ROWH.out (Sh.of_fr (((Fr.refl [P] w2_).drew.trans f8).alloc _) (fun b hb hlt => ⟨hb, by simp; exact hb.1.2.2⟩))
    go_simp
    refine hK3.out _ _ ?hS1124 (fun hHeld => ?hq1124)
    case hS1124 => exact (cells8 Q8).1.2.2.2.2.2.2.1
    clear hK3 K3
    (try simp only [Act.put, List.setIfInBounds_toArray, List.set_cons_zero, List.set_cons_succ])
    refine held_step (i := 4) rfl (by kernel_rfl) (fun K4 hK4 => ?hr1125)
    go_simp
    refine hK4.out _ _ ?hS1125 (fun hHeld => ?hq1125)
    case hS1125 => exact cell_of (heap_old Q8 _) 6
    clear hK4 K4
    (try simp only [Act.put, List.setIfInBounds_toArray, List.set_cons_zero, List.set_cons_succ])
    refine held_step (i := 5) rfl (by kernel_rfl) (fun K5 hK5 => ?hr1126)
    refine step_append_fp (by rfl) _ _ 24 (by rfl) 27 i0e _ 8 128 Tryz.underlying24 HIe.out HZ0e.out HZ1e.out HZ2e.out rfl (by decide) (v6) (args.length) (flatN c6 (args.length)) (by rfl) ROW9.own ⟨x8.heap.size, 0, none⟩ 1 1 [.int .i64 k3, .int .i64 a3, .string ⟨nm3.toArray⟩, .int .i64 n3, .string ⟨s3.toArray⟩, .slice A53 n53 c53, .slice A63 n63 c63, .slice A73 n73 c73] (by rfl) rfl (World.news_of_block (heap_new x8 _)) (by simp [Value.oneCell']) (by simp only [maxLen]; have := HLEN.out; have := HAL.out; omega) (by have := HLEN.out; have := HAL.out; omega) ?_
    intro v9 w9 hown9 hgrow9 hfp9
    obtain ⟨g8, cp8, hv9⟩ : ∃ g cap, v9 = .slice (some ⟨g, 0, none⟩) (args.length + 1) cap := own_form hown9
    subst hv9
    have Q9 := (hgrow9.block T (lt_of_heap (heap_old Q8 (.cells #[.int .i64 k3, .int .i64 a3, .string ⟨nm3.toArray⟩, .int .i64 n3, .string ⟨s3.toArray⟩, .slice A53 n53 c53, .slice A63 n63 c63, .slice A73 n73 c73] 27))) (fun e => (ROWH.out.blk T e.symm).1.2.1 rfl)).trans (heap_old Q8 (.cells #[.int .i64 k3, .int .i64 a3, .string ⟨nm3.toArray⟩, .int .i64 n3, .string ⟨s3.toArray⟩, .slice A53 n53 c53, .slice A63 n63 c63, .slice A73 n73 c73] 27))
    have hT9 := lt_of_heap Q9
    obtain ⟨⟨u0, u1, u2, u3, u4, u5, u6, u7⟩, z0, z1, z2, z3, z4, z5, z6, z7⟩ := cells8 Q9
    refine hK5.out _ _ ?hS1126 (fun hHeld => ?hq1126)
    case hS1126 => exact u6
    clear hK5 K5
    (try simp only [Act.put, List.setIfInBounds_toArray, List.set_cons_zero, List.set_cons_succ])
    refine held_take (i := 6) (v := ?v1127) rfl (by kernel_rfl) (by kernel_rfl) (by kernel_rfl) (fun _ _ _ h => h) (Or.inl ⟨by rfl, ?hy1127⟩) (by assumption) ?hr1127
    case hy1127 =>
     intro w' hSw
     (try dsimp only at hSw)
     go_simp
     (try with_reducible rfl)
    (try simp only [Act.put, List.setIfInBounds_toArray, List.set_cons_zero, List.set_cons_succ])
    refine wpAnyH_done (by kernel_rfl) ?hr1128 _
    refine thenLast_run rfl ?hq1128
    go_simp
    refine hK.out _ _ ?hs1128
    clear hK K
    clear l0 l1 l2 l3 l4 l5 l6 l7 u0 u1 u2 u3 u4 u5 u6 u7 z0 z1 z2 z3 z4 z5 z6 z7
    have f8 : Fr [P] w2_ x8 := ((Fr.refl [P] w2_).drew).trans f8
    have rowE := ROWH.out
    obtain ⟨F, g0, q0, h0, rowE, hsh, hnew, hsz⟩ := app_after_g (fld := 6) (size := 8) keepsE f8 hx3 rfl hst g0 q0 rowE (fun b hb => ⟨hb.1.2.1, hb.1.2.2, by have := hb.1.1; omega, by have := hb.1.1; omega⟩) (fun b hb => ⟨⟨by have := lt_of_heap g0; omega, by have := lt_of_heap q0; omega, by have := lt_of_heap g0; omega⟩, fun e => by have := X5 b e; omega⟩) (fun b hb => by have := hb.1.1; omega) F (by omega) (by omega) (by omega) (by omega) (by omega) (by omega) (by omega) hown9 hgrow9 hfp9 (VV' := #[.int .i64 12, .int .i64 a, .string ⟨#[]⟩, .int .i64 0, .string ⟨#[]⟩, .slice (some ⟨g9, 0, none⟩) (ls.length + 1) cp9, .slice (some ⟨g8, 0, none⟩) (args.length + 1) cp8, .slice none 0 0]) rfl
    have rowS := RowG.keep (ok' := fun b => (B < b ∧ ¬ b = T ∧ ¬ b = P) ∧ (Value.slice (some ⟨g8, 0, none⟩) (args.length + 1) cp8).ownBlock ≠ some b) keepsS rowS (fun b hb hlt => ⟨⟨hb.1, fun e => (hnew b e).elim hb.2 (fun h => by omega)⟩, hsh b hlt hb.1.2.1 hb.1.2.2 hb.2⟩)
    clear hsh hnew
    clear ROWH ROW9 Q8 Q9 hown9 hgrow9 hfp9 f8 hst hT8 hT9 hTwr
    generalize w9.setCell ⟨T, 6, none⟩ (.slice (some ⟨g8, 0, none⟩) (args.length + 1) cp8) = w3_ at *
    clear X5 hsz cS
    go_wp2_with fail
    obtain ⟨v, hv⟩ := tok_at h0.inb
    have hle5 := hr3.le
    have hpl0 := HPL.out
    cases hb : isB v st4.ok [[44]] with
    | true =>
     refine (may_yes [44] P g c ts st4 v hv hb w3_ h0 HE.out).mono ?_
     rintro e y10 ⟨rfl, h0, fm⟩
     have g0 := fm.keep g0 (by simp; omega)
     have q0 := fm.keep q0 (by simp; omega)
     have F := F.trans fm
     have rowE := RowG.keep (ok' := fun b => (B < b ∧ ¬ b = T ∧ ¬ b = P) ∧ (Value.slice (some ⟨g9, 0, none⟩) (ls.length + 1) cp9).ownBlock ≠ some b) keepsE rowE (Sh.of_fr fm (fun b hb hlt => ⟨hb, by simp; exact hb.1.2.2⟩))
     have rowS := RowG.keep (ok' := fun b => (B < b ∧ ¬ b = T ∧ ¬ b = P) ∧ (Value.slice (some ⟨g8, 0, none⟩) (args.length + 1) cp8).ownBlock ≠ some b) keepsS rowS (Sh.of_fr fm (fun b hb hlt => ⟨hb, by simp; exact hb.1.2.2⟩))
     clear fm
     go_wp2_with fail
     go_roundw
     case rel => exact ⟨true, ls ++ [nameT u st0], args ++ [(.mk k3 a3 nm3 n3 s3 ls3 args3 arms3)], _, _, _, _, _, rfl, F, g0, q0, rowS, rowE, h0, (by have := HLE0.out; simp only at *; omega), (by have := HACC.out; simp at this ⊢; omega), (by have := HAL.out; simp; omega), Lib.hid (fun x' st' h => HR1.out _ _ (by
      have hh := recE_round hu HOK.out hu1 hr3 hv hb (z := x') (st' := st') (by rw [if_pos rfl, if_pos rfl]; (first | (rw [if_pos rfl] at h; exact h) | (rw [if_pos trivial] at h; exact h)))
      (first | (rw [if_pos rfl]; exact hh) | (rw [if_pos trivial]; exact hh))))⟩
     case measure =>
      have hin1 := h0.inb
      have hpl1 := h0.pl
      rw [hpl1, hpl0]
      simp only at *
      omega
    | false =>
     refine (may_no [44] P g c ts st4 v hv hb w3_ h0 HE.out).mono ?_
     rintro e y10 ⟨rfl, fm⟩
     have g0 := fm.keep g0 (fun x => by cases x)
     have q0 := fm.keep q0 (fun x => by cases x)
     have F := F.trans0 fm
     have h0 := h0.fr fm
     have rowE := RowG.keep (ok' := fun b => (B < b ∧ ¬ b = T ∧ ¬ b = P) ∧ (Value.slice (some ⟨g9, 0, none⟩) (ls.length + 1) cp9).ownBlock ≠ some b) keepsE rowE (Sh.of_fr fm (fun b hb hlt => ⟨hb, fun x => by cases x⟩))
     have rowS := RowG.keep (ok' := fun b => (B < b ∧ ¬ b = T ∧ ¬ b = P) ∧ (Value.slice (some ⟨g8, 0, none⟩) (args.length + 1) cp8).ownBlock ≠ some b) keepsS rowS (Sh.of_fr fm (fun b hb hlt => ⟨hb, fun x => by cases x⟩))
     clear fm
     go_wp2_with fail
     go_roundw
     case rel => exact ⟨false, ls ++ [nameT u st0], args ++ [(.mk k3 a3 nm3 n3 s3 ls3 args3 arms3)], _, _, _, _, _, rfl, F, g0, q0, rowS, rowE, h0, (by have := HLE0.out; omega), (by have := HACC.out; simp at this ⊢; omega), (by have := HAL.out; simp; omega), Lib.hid (fun x' st' h => HR1.out _ _ (by
      have hh := recE_round hu HOK.out hu1 hr3 hv hb (z := x') (st' := st') (by rw [if_neg (by decide), if_neg (by decide)]; (first | (rw [if_neg (by decide)] at h; exact h) | (rw [if_neg id] at h; exact h)))
      (first | (rw [if_pos rfl]; exact hh) | (rw [if_pos trivial]; exact hh))))⟩
     case measure =>
      have hpl1 := h0.pl
      rw [hpl1, hpl0]
      simp only at *
      omega
end Go.Proofs.YtpjkfeehgookkaaGreatDoor
namespace Go.Proofs.YtpjkfeehgookkaaGreatDoor
open Go.RowKit
theorem braces_step (ts : List Tok) (hE : EndOk ts) (N : Nat) (ih : AllE ts N) : GB ts (N + 1) := by
 intro P g c st a w h hm
 obtain ⟨t, ht⟩ := tok_at h.inb
 cases hb : isB t st.ok [[125]] with
 | true => exact braces_empty ts hE N ih P g c st a w h hm t ht hb
 | false =>
  obtain ⟨n, hn⟩ := tok_at (ts := ts) (i := min (st.i + 1) (ts.length - 1)) (by have := h.inb; omega)
  cases hk : (t.k == 1) with
  | false => exact braces_with1 ts hE N ih P g c st a w h hm t ht hb n _ rfl hn hk
  | true =>
   cases hk7 : (n.k == 7) with
   | false => exact braces_with2 ts hE N ih P g c st a w h hm t ht hb n _ rfl hn hk hk7
   | true =>
    cases hx : (n.text == [61]) with
    | false => exact braces_with3 ts hE N ih P g c st a w h hm t ht hb n _ rfl hn hk hk7 hx
    | true => exact braces_rec ts hE N ih P g c st a w h hm t ht hb n _ rfl hn hk hk7 hx
end Go.Proofs.YtpjkfeehgookkaaGreatDoor
namespace Go.Proofs.YtpjkfeehgookkaaGreatDoor
open Go.RowKit
attribute [local go_sem ↓] Go.wp_at_zero Go.wp_at_succ
set_option maxHeartbeats 16000000 in
set_option maxRecDepth 100000 in
theorem marked_minus_no (ts : List Tok) (hE : EndOk ts) (N : Nat) (ihP : GP ts N 2 .pat 84) (P g c : Nat) (st : St) (a : Int) (w : World) (h : PSt P g c ts st w) (hm : 16 * (ts.length - st.i) < N + 1) (t : Tok) (ht : ts[st.i]? = some t) (hb0 : isB t st.ok [[45]] = true) (u : Tok) (hu : ts[st.i + 1]? = some u) (hk : u.k ≠ 4) : Calls Tryz.prog 131 #[.pointer (some ⟨P, 0, none⟩), .agg #[.int .i64 0, .int .i64 a, .string ⟨#[]⟩, .int .i64 0, .string ⟨#[]⟩, .slice none 0 0, .slice none 0 0]] w (PaOk P g c ts st (bodyP (.marked (.mk 0 a [] 0 [] [] []))) w) := by
 have HU := Lib.hid hu
 have HK := Lib.hid hk
 clear hu hk
 have HB0 := Lib.hid hb0
 clear hb0
 have HT := Lib.hid ht
 clear ht
 have IHP := Lib.hid ihP
 clear ihP
 have H := Lib.hid h
 have hP := lt_of_heap h.blk
 have hgl := h.lt
 have hin := h.inb
 have HN := Lib.hid hm
 have HE := Lib.hid hE
 clear h hm hE
 go_enter Tryz.func131, Tryz.ntmps131
 go_wp2_with fail
 have f0 : Fr [] w ((w.alloc (.cells #[.int .i64 0, .int .i64 a, .string ⟨#[]⟩, .int .i64 0, .string ⟨#[]⟩, .slice none 0 0, .slice none 0 0] 62)).alloc (.cells #[.int .i64 0, .int .i64 0, .string ⟨#[]⟩, .int .i64 0, .string ⟨#[]⟩, .slice none 0 0, .slice none 0 0] 62)) := ((Fr.refl [] w).alloc _).alloc _
 have q0 := heap_old (heap_new w (.cells #[.int .i64 0, .int .i64 a, .string ⟨#[]⟩, .int .i64 0, .string ⟨#[]⟩, .slice none 0 0, .slice none 0 0] 62)) (.cells #[.int .i64 0, .int .i64 0, .string ⟨#[]⟩, .int .i64 0, .string ⟨#[]⟩, .slice none 0 0, .slice none 0 0] 62)
 have g0 := heap_new (w.alloc (.cells #[.int .i64 0, .int .i64 a, .string ⟨#[]⟩, .int .i64 0, .string ⟨#[]⟩, .slice none 0 0, .slice none 0 0] 62)) (.cells #[.int .i64 0, .int .i64 0, .string ⟨#[]⟩, .int .i64 0, .string ⟨#[]⟩, .slice none 0 0, .slice none 0 0] 62)
 have hsz : (w.alloc (.cells #[.int .i64 0, .int .i64 a, .string ⟨#[]⟩, .int .i64 0, .string ⟨#[]⟩, .slice none 0 0, .slice none 0 0] 62)).heap.size = w.heap.size + 1 := by simp
 rw [hsz] at g0
 clear hsz
 have h0 := H.out.fr f0
 have F := f0.mono (L' := [P]) (fun x hx => by cases hx)
 generalize (w.alloc (.cells #[.int .i64 0, .int .i64 a, .string ⟨#[]⟩, .int .i64 0, .string ⟨#[]⟩, .slice none 0 0, .slice none 0 0] 62)).alloc (.cells #[.int .i64 0, .int .i64 0, .string ⟨#[]⟩, .int .i64 0, .string ⟨#[]⟩, .slice none 0 0, .slice none 0 0] 62) = w1 at *
 generalize hT : w.heap.size = T at *
 generalize hB : T + 1 = B at *
 have hPT : P < T := hP
 have hgT : g < T := hgl
 clear f0 hP hgl
 refine (may_yes [45] P g c ts st t HT.out HB0.out w1 h0 HE.out).mono ?_
 rintro e y1 ⟨rfl, h0, fm⟩
 have g0 := fm.keep g0 (by simp; omega)
 have q0 := fm.keep q0 (by simp; omega)
 have F := F.trans fm
 clear fm
 obtain ⟨⟨m0, m1, m2, m3, m4, m5, m6⟩, j0, j1, j2, j3, j4, j5, j6⟩ := cells7 q0
 have hTx := lt_of_heap q0
 have q1 : (y1.setCell ⟨T, 0, none⟩ (.int .i64 3)).heap[T]? = some (.cells #[.int .i64 3, .int .i64 a, .string ⟨#[]⟩, .int .i64 0, .string ⟨#[]⟩, .slice none 0 0, .slice none 0 0] 62 (0, 0)) := set_at q0 0 _
 have fs := (Fr.refl [T] y1).setCell (p := ⟨T, 0, none⟩) (.inl (by simp)) (.int .i64 3)
 have g0 := fs.keep g0 (by simp; omega)
 have h0 := h0.frL fs (by simp; omega) (by simp; omega)
 have F := F.step fs (fun x hx => .inr (by simp at hx; omega))
 have HQ := Lib.hid q1
 clear q0 q1 fs
 go_wp2_with fail
 clear m0 m1 m2 m3 m4 m5 m6 j0 j1 j2 j3 j4 j5 j6
 have q0 := HQ.out
 clear HQ
 generalize y1.setCell ⟨T, 0, none⟩ (.int .i64 3) = y1n at *
 have hk4 : (u.k != 4) = true := bne_iff_ne.2 HK.out
 refine (now_any P g c ts ⟨st.i + 1, st.ok⟩ u HU.out y1n h0 HE.out).mono ?_
 rintro e y2 ⟨rfl, fm⟩
 have g0 := fm.keep g0 (fun x => by cases x)
 have q0 := fm.keep q0 (fun x => by cases x)
 have F := F.trans0 fm
 have h0 := h0.fr fm
 clear fm
 have r0 := tok_f0
 go_wp2_with fail
 clear r0 hk4
 refine (fail_any P g c ts ⟨st.i + 1, st.ok⟩ y2 h0).mono ?_
 rintro e y3 ⟨rfl, h0, fm⟩
 have g0 := fm.keep g0 (by simp; omega)
 have q0 := fm.keep q0 (by simp; omega)
 have F := F.trans fm
 clear fm
 have hBlt := lt_of_heap g0
 have hTlt := lt_of_heap q0
 obtain ⟨⟨l0, l1, l2, l3, l4, l5, l6⟩, _⟩ := cells7 q0
 obtain ⟨⟨u0_, u1, u2, u3, u4, u5, u6⟩, z0, z1, z2, z3, z4, z5, z6⟩ := cells7 g0
 have HG := Lib.hid (st7_heap g0 (.int .i64 3) (.int .i64 a) (.string ⟨#[]⟩) (.int .i64 0) (.string ⟨#[]⟩) (.slice none 0 0) (.slice none 0 0))
 have HF := Lib.hid (F.step (st7_fr y3 B (.int .i64 3) (.int .i64 a) (.string ⟨#[]⟩) (.int .i64 0) (.string ⟨#[]⟩) (.slice none 0 0) (.slice none 0 0)) (fun x hx => .inr (by simp at hx; omega)))
 have HP := Lib.hid (h0.frL (st7_fr y3 B (.int .i64 3) (.int .i64 a) (.string ⟨#[]⟩) (.int .i64 0) (.string ⟨#[]⟩) (.slice none 0 0) (.slice none 0 0)) (by simp; omega) (by simp; omega))
 unfold st7 at HG HF HP 
 go_wp2_with fail
 generalize ((((((y3.setCell ⟨B, 0, none⟩ (.int .i64 3)).setCell ⟨B, 1, none⟩ (.int .i64 a)).setCell ⟨B, 2, none⟩ (.string ⟨#[]⟩)).setCell ⟨B, 3, none⟩ (.int .i64 0)).setCell ⟨B, 4, none⟩ (.string ⟨#[]⟩)).setCell ⟨B, 5, none⟩ (.slice none 0 0)).setCell ⟨B, 6, none⟩ (.slice none 0 0) = Z at HG HF HP  ⊢
 obtain ⟨⟨d0, d1, d2, d3, d4, d5, d6⟩, _⟩ := cells7 HG.out
 have hxx := PatAt.of_rows (w := Z) (ok := fun b => B ≤ b) (k := 3) (a := a) (nm := []) (n := 0) (s := []) (c5 := fun _ => []) RowG.nil_ (c6 := fun _ => []) RowG.nil_
 refine bodyPost_ret (v := .agg #[.int .i64 3, .int .i64 a, .string ⟨#[]⟩, .int .i64 0, .string ⟨#[]⟩, .slice none 0 0, .slice none 0 0]) ?_ rfl ?_
 ·simp [results, Tryz.f131, go_sem, d0, d1, d2, d3, d4, d5, d6]
 ·exact ⟨_, _, _, _, _, _, _, _, _, _, _, _, _, _, rfl, hxx.keep (Sh.of_fr (Fr.refl [] Z) (fun b hb hlt => ⟨by omega, fun x => by cases x⟩)), by unfold bodyP; exact .may_yes HT.out HB0.out (.thn (.look HU.out (by rw [if_neg HK.out]; exact .fail .retP))), HP.out, HF.out⟩
set_option maxHeartbeats 16000000 in
set_option maxRecDepth 100000 in
theorem marked_minus (ts : List Tok) (hE : EndOk ts) (N : Nat) (ihP : GP ts N 2 .pat 84) (P g c : Nat) (st : St) (a : Int) (w : World) (h : PSt P g c ts st w) (hm : 16 * (ts.length - st.i) < N + 1) (t : Tok) (ht : ts[st.i]? = some t) (hb0 : isB t st.ok [[45]] = true) (u : Tok) (hu : ts[st.i + 1]? = some u) (hk : u.k = 4) : Calls Tryz.prog 131 #[.pointer (some ⟨P, 0, none⟩), .agg #[.int .i64 0, .int .i64 a, .string ⟨#[]⟩, .int .i64 0, .string ⟨#[]⟩, .slice none 0 0, .slice none 0 0]] w (PaOk P g c ts st (bodyP (.marked (.mk 0 a [] 0 [] [] []))) w) := by
 have HU := Lib.hid hu
 have HK := Lib.hid hk
 clear hu hk
 have HB0 := Lib.hid hb0
 clear hb0
 have HT := Lib.hid ht
 clear ht
 have IHP := Lib.hid ihP
 clear ihP
 have H := Lib.hid h
 have hP := lt_of_heap h.blk
 have hgl := h.lt
 have hin := h.inb
 have HN := Lib.hid hm
 have HE := Lib.hid hE
 clear h hm hE
 go_enter Tryz.func131, Tryz.ntmps131
 go_wp2_with fail
 have f0 : Fr [] w ((w.alloc (.cells #[.int .i64 0, .int .i64 a, .string ⟨#[]⟩, .int .i64 0, .string ⟨#[]⟩, .slice none 0 0, .slice none 0 0] 62)).alloc (.cells #[.int .i64 0, .int .i64 0, .string ⟨#[]⟩, .int .i64 0, .string ⟨#[]⟩, .slice none 0 0, .slice none 0 0] 62)) := ((Fr.refl [] w).alloc _).alloc _
 have q0 := heap_old (heap_new w (.cells #[.int .i64 0, .int .i64 a, .string ⟨#[]⟩, .int .i64 0, .string ⟨#[]⟩, .slice none 0 0, .slice none 0 0] 62)) (.cells #[.int .i64 0, .int .i64 0, .string ⟨#[]⟩, .int .i64 0, .string ⟨#[]⟩, .slice none 0 0, .slice none 0 0] 62)
 have g0 := heap_new (w.alloc (.cells #[.int .i64 0, .int .i64 a, .string ⟨#[]⟩, .int .i64 0, .string ⟨#[]⟩, .slice none 0 0, .slice none 0 0] 62)) (.cells #[.int .i64 0, .int .i64 0, .string ⟨#[]⟩, .int .i64 0, .string ⟨#[]⟩, .slice none 0 0, .slice none 0 0] 62)
 have hsz : (w.alloc (.cells #[.int .i64 0, .int .i64 a, .string ⟨#[]⟩, .int .i64 0, .string ⟨#[]⟩, .slice none 0 0, .slice none 0 0] 62)).heap.size = w.heap.size + 1 := by simp
 rw [hsz] at g0
 clear hsz
 have h0 := H.out.fr f0
 have F := f0.mono (L' := [P]) (fun x hx => by cases hx)
 generalize (w.alloc (.cells #[.int .i64 0, .int .i64 a, .string ⟨#[]⟩, .int .i64 0, .string ⟨#[]⟩, .slice none 0 0, .slice none 0 0] 62)).alloc (.cells #[.int .i64 0, .int .i64 0, .string ⟨#[]⟩, .int .i64 0, .string ⟨#[]⟩, .slice none 0 0, .slice none 0 0] 62) = w1 at *
 generalize hT : w.heap.size = T at *
 generalize hB : T + 1 = B at *
 have hPT : P < T := hP
 have hgT : g < T := hgl
 clear f0 hP hgl
 refine (may_yes [45] P g c ts st t HT.out HB0.out w1 h0 HE.out).mono ?_
 rintro e y1 ⟨rfl, h0, fm⟩
 have g0 := fm.keep g0 (by simp; omega)
 have q0 := fm.keep q0 (by simp; omega)
 have F := F.trans fm
 clear fm
 obtain ⟨⟨m0, m1, m2, m3, m4, m5, m6⟩, j0, j1, j2, j3, j4, j5, j6⟩ := cells7 q0
 have hTx := lt_of_heap q0
 have q1 : (y1.setCell ⟨T, 0, none⟩ (.int .i64 3)).heap[T]? = some (.cells #[.int .i64 3, .int .i64 a, .string ⟨#[]⟩, .int .i64 0, .string ⟨#[]⟩, .slice none 0 0, .slice none 0 0] 62 (0, 0)) := set_at q0 0 _
 have fs := (Fr.refl [T] y1).setCell (p := ⟨T, 0, none⟩) (.inl (by simp)) (.int .i64 3)
 have g0 := fs.keep g0 (by simp; omega)
 have h0 := h0.frL fs (by simp; omega) (by simp; omega)
 have F := F.step fs (fun x hx => .inr (by simp at hx; omega))
 have HQ := Lib.hid q1
 clear q0 q1 fs
 go_wp2_with fail
 clear m0 m1 m2 m3 m4 m5 m6 j0 j1 j2 j3 j4 j5 j6
 have q0 := HQ.out
 clear HQ
 generalize y1.setCell ⟨T, 0, none⟩ (.int .i64 3) = y1n at *
 have hk4 : (u.k != 4) = false := by rw [bne_eq_false_iff_eq]; exact HK.out
 refine (now_any P g c ts ⟨st.i + 1, st.ok⟩ u HU.out y1n h0 HE.out).mono ?_
 rintro e y2 ⟨rfl, fm⟩
 have g0 := fm.keep g0 (fun x => by cases x)
 have q0 := fm.keep q0 (fun x => by cases x)
 have F := F.trans0 fm
 have h0 := h0.fr fm
 clear fm
 have r0 := tok_f0
 have r3 := tok_f3
 have hok1 : st.ok = true := (isB_ok HB0.out).1
 have HOK := Lib.hid hok1
 clear hok1
 go_wp2_with fail
 clear r0 hk4
 refine (next_any P g c ts ⟨st.i + 1, st.ok⟩ u HU.out HOK.out (by rw [HK.out]; decide) y2 h0 HE.out).mono ?_
 rintro e y3 ⟨rfl, h0, fm⟩
 have g0 := fm.keep g0 (by simp; omega)
 have q0 := fm.keep q0 (by simp; omega)
 have F := F.trans fm
 clear fm
 obtain ⟨⟨m0, m1, m2, m3, m4, m5, m6⟩, j0, j1, j2, j3, j4, j5, j6⟩ := cells7 q0
 obtain ⟨⟨u0_, u1, u2, u3, u4, u5, u6⟩, z0, z1, z2, z3, z4, z5, z6⟩ := cells7 g0
 have hTx := lt_of_heap q0
 have hBx := lt_of_heap g0
 have nBT : ¬ B = T := by omega
 have nTB : ¬ T = B := by omega
 have fs := ((Fr.refl [T] y3).setCell (p := ⟨T, 3, none⟩) (.inl (by simp)) (.int .i64 (wrap64 (-u.n))))
 have g0 := fs.keep g0 (by simp; omega)
 have h0 := h0.frL fs (by simp; omega) (by simp; omega)
 have F := F.step fs (fun x hx => .inr (by simp at hx; omega))
 have HG := Lib.hid (st7_heap g0 (.int .i64 3) (.int .i64 a) (.string ⟨#[]⟩) (.int .i64 (wrap64 (-u.n))) (.string ⟨#[]⟩) (.slice none 0 0) (.slice none 0 0))
 have HF := Lib.hid (F.step (st7_fr (y3.setCell ⟨T, 3, none⟩ (.int .i64 (wrap64 (-u.n)))) B (.int .i64 3) (.int .i64 a) (.string ⟨#[]⟩) (.int .i64 (wrap64 (-u.n))) (.string ⟨#[]⟩) (.slice none 0 0) (.slice none 0 0)) (fun x hx => .inr (by simp at hx; omega)))
 have HP := Lib.hid (h0.frL (st7_fr (y3.setCell ⟨T, 3, none⟩ (.int .i64 (wrap64 (-u.n)))) B (.int .i64 3) (.int .i64 a) (.string ⟨#[]⟩) (.int .i64 (wrap64 (-u.n))) (.string ⟨#[]⟩) (.slice none 0 0) (.slice none 0 0)) (by simp; omega) (by simp; omega))
 unfold st7 at HG HF HP 
 go_wp2_with fail
 generalize (((((((y3.setCell ⟨T, 3, none⟩ (.int .i64 (wrap64 (-u.n)))).setCell ⟨B, 0, none⟩ (.int .i64 3)).setCell ⟨B, 1, none⟩ (.int .i64 a)).setCell ⟨B, 2, none⟩ (.string ⟨#[]⟩)).setCell ⟨B, 3, none⟩ (.int .i64 (wrap64 (-u.n)))).setCell ⟨B, 4, none⟩ (.string ⟨#[]⟩)).setCell ⟨B, 5, none⟩ (.slice none 0 0)).setCell ⟨B, 6, none⟩ (.slice none 0 0) = Z at HG HF HP  ⊢
 obtain ⟨⟨d0, d1, d2, d3, d4, d5, d6⟩, _⟩ := cells7 HG.out
 have hxx := PatAt.of_rows (w := Z) (ok := fun b => B ≤ b) (k := 3) (a := a) (nm := []) (n := wrap64 (-u.n)) (s := []) (c5 := fun _ => []) RowG.nil_ (c6 := fun _ => []) RowG.nil_
 refine bodyPost_ret (v := .agg #[.int .i64 3, .int .i64 a, .string ⟨#[]⟩, .int .i64 (wrap64 (-u.n)), .string ⟨#[]⟩, .slice none 0 0, .slice none 0 0]) ?_ rfl ?_
 ·simp [results, Tryz.f131, go_sem, d0, d1, d2, d3, d4, d5, d6]
 ·exact ⟨_, _, _, _, _, _, _, _, _, _, _, _, _, _, rfl, hxx.keep (Sh.of_fr (Fr.refl [] Z) (fun b hb hlt => ⟨by omega, fun x => by cases x⟩)), by unfold bodyP; exact .may_yes HT.out HB0.out (.thn (.look HU.out (by rw [if_pos HK.out, if_pos HOK.out]; exact .adv .retP))), HP.out, HF.out⟩
set_option maxHeartbeats 16000000 in
set_option maxRecDepth 100000 in
theorem marked_true (ts : List Tok) (hE : EndOk ts) (N : Nat) (ihP : GP ts N 2 .pat 84) (P g c : Nat) (st : St) (a : Int) (w : World) (h : PSt P g c ts st w) (hm : 16 * (ts.length - st.i) < N + 1) (t : Tok) (ht : ts[st.i]? = some t) (hb0 : isB t st.ok [[45]] = false) (hb1 : isB t st.ok [[116, 114, 117, 101]] = true)  : Calls Tryz.prog 131 #[.pointer (some ⟨P, 0, none⟩), .agg #[.int .i64 0, .int .i64 a, .string ⟨#[]⟩, .int .i64 0, .string ⟨#[]⟩, .slice none 0 0, .slice none 0 0]] w (PaOk P g c ts st (bodyP (.marked (.mk 0 a [] 0 [] [] []))) w) := by
 have HB0 := Lib.hid hb0
 clear hb0
 have HB1 := Lib.hid hb1
 clear hb1
 have HT := Lib.hid ht
 clear ht
 have IHP := Lib.hid ihP
 clear ihP
 have H := Lib.hid h
 have hP := lt_of_heap h.blk
 have hgl := h.lt
 have hin := h.inb
 have HN := Lib.hid hm
 have HE := Lib.hid hE
 clear h hm hE
 go_enter Tryz.func131, Tryz.ntmps131
 go_wp2_with fail
 have f0 : Fr [] w ((w.alloc (.cells #[.int .i64 0, .int .i64 a, .string ⟨#[]⟩, .int .i64 0, .string ⟨#[]⟩, .slice none 0 0, .slice none 0 0] 62)).alloc (.cells #[.int .i64 0, .int .i64 0, .string ⟨#[]⟩, .int .i64 0, .string ⟨#[]⟩, .slice none 0 0, .slice none 0 0] 62)) := ((Fr.refl [] w).alloc _).alloc _
 have q0 := heap_old (heap_new w (.cells #[.int .i64 0, .int .i64 a, .string ⟨#[]⟩, .int .i64 0, .string ⟨#[]⟩, .slice none 0 0, .slice none 0 0] 62)) (.cells #[.int .i64 0, .int .i64 0, .string ⟨#[]⟩, .int .i64 0, .string ⟨#[]⟩, .slice none 0 0, .slice none 0 0] 62)
 have g0 := heap_new (w.alloc (.cells #[.int .i64 0, .int .i64 a, .string ⟨#[]⟩, .int .i64 0, .string ⟨#[]⟩, .slice none 0 0, .slice none 0 0] 62)) (.cells #[.int .i64 0, .int .i64 0, .string ⟨#[]⟩, .int .i64 0, .string ⟨#[]⟩, .slice none 0 0, .slice none 0 0] 62)
 have hsz : (w.alloc (.cells #[.int .i64 0, .int .i64 a, .string ⟨#[]⟩, .int .i64 0, .string ⟨#[]⟩, .slice none 0 0, .slice none 0 0] 62)).heap.size = w.heap.size + 1 := by simp
 rw [hsz] at g0
 clear hsz
 have h0 := H.out.fr f0
 have F := f0.mono (L' := [P]) (fun x hx => by cases hx)
 generalize (w.alloc (.cells #[.int .i64 0, .int .i64 a, .string ⟨#[]⟩, .int .i64 0, .string ⟨#[]⟩, .slice none 0 0, .slice none 0 0] 62)).alloc (.cells #[.int .i64 0, .int .i64 0, .string ⟨#[]⟩, .int .i64 0, .string ⟨#[]⟩, .slice none 0 0, .slice none 0 0] 62) = w1 at *
 generalize hT : w.heap.size = T at *
 generalize hB : T + 1 = B at *
 have hPT : P < T := hP
 have hgT : g < T := hgl
 clear f0 hP hgl
 refine (may_no [45] P g c ts st t HT.out HB0.out w1 h0 HE.out).mono ?_
 rintro e x0 ⟨rfl, fm⟩
 have g0 := fm.keep g0 (fun x => by cases x)
 have q0 := fm.keep q0 (fun x => by cases x)
 have F := F.trans0 fm
 have h0 := h0.fr fm
 clear fm
 go_wp2_with fail
 refine (may_yes [116, 114, 117, 101] P g c ts st t HT.out HB1.out x0 h0 HE.out).mono ?_
 rintro e y1 ⟨rfl, h0, fm⟩
 have g0 := fm.keep g0 (by simp; omega)
 have q0 := fm.keep q0 (by simp; omega)
 have F := F.trans fm
 clear fm
 obtain ⟨⟨m0, m1, m2, m3, m4, m5, m6⟩, j0, j1, j2, j3, j4, j5, j6⟩ := cells7 q0
 obtain ⟨⟨u0_, u1, u2, u3, u4, u5, u6⟩, z0, z1, z2, z3, z4, z5, z6⟩ := cells7 g0
 have hTx := lt_of_heap q0
 have hBx := lt_of_heap g0
 have nBT : ¬ B = T := by omega
 have nTB : ¬ T = B := by omega
 have fs := (((Fr.refl [T] y1).setCell (p := ⟨T, 0, none⟩) (.inl (by simp)) (.int .i64 5)).setCell (p := ⟨T, 3, none⟩) (.inl (by simp)) (.int .i64 1))
 have g0 := fs.keep g0 (by simp; omega)
 have h0 := h0.frL fs (by simp; omega) (by simp; omega)
 have F := F.step fs (fun x hx => .inr (by simp at hx; omega))
 have HG := Lib.hid (st7_heap g0 (.int .i64 5) (.int .i64 a) (.string ⟨#[]⟩) (.int .i64 1) (.string ⟨#[]⟩) (.slice none 0 0) (.slice none 0 0))
 have HF := Lib.hid (F.step (st7_fr ((y1.setCell ⟨T, 0, none⟩ (.int .i64 5)).setCell ⟨T, 3, none⟩ (.int .i64 1)) B (.int .i64 5) (.int .i64 a) (.string ⟨#[]⟩) (.int .i64 1) (.string ⟨#[]⟩) (.slice none 0 0) (.slice none 0 0)) (fun x hx => .inr (by simp at hx; omega)))
 have HP := Lib.hid (h0.frL (st7_fr ((y1.setCell ⟨T, 0, none⟩ (.int .i64 5)).setCell ⟨T, 3, none⟩ (.int .i64 1)) B (.int .i64 5) (.int .i64 a) (.string ⟨#[]⟩) (.int .i64 1) (.string ⟨#[]⟩) (.slice none 0 0) (.slice none 0 0)) (by simp; omega) (by simp; omega))
 unfold st7 at HG HF HP 
 go_wp2_with fail
 generalize ((((((((y1.setCell ⟨T, 0, none⟩ (.int .i64 5)).setCell ⟨T, 3, none⟩ (.int .i64 1)).setCell ⟨B, 0, none⟩ (.int .i64 5)).setCell ⟨B, 1, none⟩ (.int .i64 a)).setCell ⟨B, 2, none⟩ (.string ⟨#[]⟩)).setCell ⟨B, 3, none⟩ (.int .i64 1)).setCell ⟨B, 4, none⟩ (.string ⟨#[]⟩)).setCell ⟨B, 5, none⟩ (.slice none 0 0)).setCell ⟨B, 6, none⟩ (.slice none 0 0) = Z at HG HF HP  ⊢
 obtain ⟨⟨d0, d1, d2, d3, d4, d5, d6⟩, _⟩ := cells7 HG.out
 have hxx := PatAt.of_rows (w := Z) (ok := fun b => B ≤ b) (k := 5) (a := a) (nm := []) (n := 1) (s := []) (c5 := fun _ => []) RowG.nil_ (c6 := fun _ => []) RowG.nil_
 refine bodyPost_ret (v := .agg #[.int .i64 5, .int .i64 a, .string ⟨#[]⟩, .int .i64 1, .string ⟨#[]⟩, .slice none 0 0, .slice none 0 0]) ?_ rfl ?_
 ·simp [results, Tryz.f131, go_sem, d0, d1, d2, d3, d4, d5, d6]
 ·exact ⟨_, _, _, _, _, _, _, _, _, _, _, _, _, _, rfl, hxx.keep (Sh.of_fr (Fr.refl [] Z) (fun b hb hlt => ⟨by omega, fun x => by cases x⟩)), by unfold bodyP; exact .may_no HT.out HB0.out (.els (.may_yes HT.out HB1.out (.thn (.retP)))), HP.out, HF.out⟩
set_option maxHeartbeats 16000000 in
set_option maxRecDepth 100000 in
theorem marked_false (ts : List Tok) (hE : EndOk ts) (N : Nat) (ihP : GP ts N 2 .pat 84) (P g c : Nat) (st : St) (a : Int) (w : World) (h : PSt P g c ts st w) (hm : 16 * (ts.length - st.i) < N + 1) (t : Tok) (ht : ts[st.i]? = some t) (hb0 : isB t st.ok [[45]] = false) (hb1 : isB t st.ok [[116, 114, 117, 101]] = false) (hb2 : isB t st.ok [[102, 97, 108, 115, 101]] = true)  : Calls Tryz.prog 131 #[.pointer (some ⟨P, 0, none⟩), .agg #[.int .i64 0, .int .i64 a, .string ⟨#[]⟩, .int .i64 0, .string ⟨#[]⟩, .slice none 0 0, .slice none 0 0]] w (PaOk P g c ts st (bodyP (.marked (.mk 0 a [] 0 [] [] []))) w) := by
 have HB0 := Lib.hid hb0
 clear hb0
 have HB1 := Lib.hid hb1
 clear hb1
 have HB2 := Lib.hid hb2
 clear hb2
 have HT := Lib.hid ht
 clear ht
 have IHP := Lib.hid ihP
 clear ihP
 have H := Lib.hid h
 have hP := lt_of_heap h.blk
 have hgl := h.lt
 have hin := h.inb
 have HN := Lib.hid hm
 have HE := Lib.hid hE
 clear h hm hE
 go_enter Tryz.func131, Tryz.ntmps131
 go_wp2_with fail
 have f0 : Fr [] w ((w.alloc (.cells #[.int .i64 0, .int .i64 a, .string ⟨#[]⟩, .int .i64 0, .string ⟨#[]⟩, .slice none 0 0, .slice none 0 0] 62)).alloc (.cells #[.int .i64 0, .int .i64 0, .string ⟨#[]⟩, .int .i64 0, .string ⟨#[]⟩, .slice none 0 0, .slice none 0 0] 62)) := ((Fr.refl [] w).alloc _).alloc _
 have q0 := heap_old (heap_new w (.cells #[.int .i64 0, .int .i64 a, .string ⟨#[]⟩, .int .i64 0, .string ⟨#[]⟩, .slice none 0 0, .slice none 0 0] 62)) (.cells #[.int .i64 0, .int .i64 0, .string ⟨#[]⟩, .int .i64 0, .string ⟨#[]⟩, .slice none 0 0, .slice none 0 0] 62)
 have g0 := heap_new (w.alloc (.cells #[.int .i64 0, .int .i64 a, .string ⟨#[]⟩, .int .i64 0, .string ⟨#[]⟩, .slice none 0 0, .slice none 0 0] 62)) (.cells #[.int .i64 0, .int .i64 0, .string ⟨#[]⟩, .int .i64 0, .string ⟨#[]⟩, .slice none 0 0, .slice none 0 0] 62)
 have hsz : (w.alloc (.cells #[.int .i64 0, .int .i64 a, .string ⟨#[]⟩, .int .i64 0, .string ⟨#[]⟩, .slice none 0 0, .slice none 0 0] 62)).heap.size = w.heap.size + 1 := by simp
 rw [hsz] at g0
 clear hsz
 have h0 := H.out.fr f0
 have F := f0.mono (L' := [P]) (fun x hx => by cases hx)
 generalize (w.alloc (.cells #[.int .i64 0, .int .i64 a, .string ⟨#[]⟩, .int .i64 0, .string ⟨#[]⟩, .slice none 0 0, .slice none 0 0] 62)).alloc (.cells #[.int .i64 0, .int .i64 0, .string ⟨#[]⟩, .int .i64 0, .string ⟨#[]⟩, .slice none 0 0, .slice none 0 0] 62) = w1 at *
 generalize hT : w.heap.size = T at *
 generalize hB : T + 1 = B at *
 have hPT : P < T := hP
 have hgT : g < T := hgl
 clear f0 hP hgl
 refine (may_no [45] P g c ts st t HT.out HB0.out w1 h0 HE.out).mono ?_
 rintro e x0 ⟨rfl, fm⟩
 have g0 := fm.keep g0 (fun x => by cases x)
 have q0 := fm.keep q0 (fun x => by cases x)
 have F := F.trans0 fm
 have h0 := h0.fr fm
 clear fm
 go_wp2_with fail
 refine (may_no [116, 114, 117, 101] P g c ts st t HT.out HB1.out x0 h0 HE.out).mono ?_
 rintro e x1 ⟨rfl, fm⟩
 have g0 := fm.keep g0 (fun x => by cases x)
 have q0 := fm.keep q0 (fun x => by cases x)
 have F := F.trans0 fm
 have h0 := h0.fr fm
 clear fm
 go_wp2_with fail
 refine (may_yes [102, 97, 108, 115, 101] P g c ts st t HT.out HB2.out x1 h0 HE.out).mono ?_
 rintro e y1 ⟨rfl, h0, fm⟩
 have g0 := fm.keep g0 (by simp; omega)
 have q0 := fm.keep q0 (by simp; omega)
 have F := F.trans fm
 clear fm
 obtain ⟨⟨m0, m1, m2, m3, m4, m5, m6⟩, j0, j1, j2, j3, j4, j5, j6⟩ := cells7 q0
 obtain ⟨⟨u0_, u1, u2, u3, u4, u5, u6⟩, z0, z1, z2, z3, z4, z5, z6⟩ := cells7 g0
 have hTx := lt_of_heap q0
 have hBx := lt_of_heap g0
 have nBT : ¬ B = T := by omega
 have nTB : ¬ T = B := by omega
 have fs := ((Fr.refl [T] y1).setCell (p := ⟨T, 0, none⟩) (.inl (by simp)) (.int .i64 5))
 have g0 := fs.keep g0 (by simp; omega)
 have h0 := h0.frL fs (by simp; omega) (by simp; omega)
 have F := F.step fs (fun x hx => .inr (by simp at hx; omega))
 have HG := Lib.hid (st7_heap g0 (.int .i64 5) (.int .i64 a) (.string ⟨#[]⟩) (.int .i64 0) (.string ⟨#[]⟩) (.slice none 0 0) (.slice none 0 0))
 have HF := Lib.hid (F.step (st7_fr (y1.setCell ⟨T, 0, none⟩ (.int .i64 5)) B (.int .i64 5) (.int .i64 a) (.string ⟨#[]⟩) (.int .i64 0) (.string ⟨#[]⟩) (.slice none 0 0) (.slice none 0 0)) (fun x hx => .inr (by simp at hx; omega)))
 have HP := Lib.hid (h0.frL (st7_fr (y1.setCell ⟨T, 0, none⟩ (.int .i64 5)) B (.int .i64 5) (.int .i64 a) (.string ⟨#[]⟩) (.int .i64 0) (.string ⟨#[]⟩) (.slice none 0 0) (.slice none 0 0)) (by simp; omega) (by simp; omega))
 unfold st7 at HG HF HP 
 go_wp2_with fail
 generalize (((((((y1.setCell ⟨T, 0, none⟩ (.int .i64 5)).setCell ⟨B, 0, none⟩ (.int .i64 5)).setCell ⟨B, 1, none⟩ (.int .i64 a)).setCell ⟨B, 2, none⟩ (.string ⟨#[]⟩)).setCell ⟨B, 3, none⟩ (.int .i64 0)).setCell ⟨B, 4, none⟩ (.string ⟨#[]⟩)).setCell ⟨B, 5, none⟩ (.slice none 0 0)).setCell ⟨B, 6, none⟩ (.slice none 0 0) = Z at HG HF HP  ⊢
 obtain ⟨⟨d0, d1, d2, d3, d4, d5, d6⟩, _⟩ := cells7 HG.out
 have hxx := PatAt.of_rows (w := Z) (ok := fun b => B ≤ b) (k := 5) (a := a) (nm := []) (n := 0) (s := []) (c5 := fun _ => []) RowG.nil_ (c6 := fun _ => []) RowG.nil_
 refine bodyPost_ret (v := .agg #[.int .i64 5, .int .i64 a, .string ⟨#[]⟩, .int .i64 0, .string ⟨#[]⟩, .slice none 0 0, .slice none 0 0]) ?_ rfl ?_
 ·simp [results, Tryz.f131, go_sem, d0, d1, d2, d3, d4, d5, d6]
 ·exact ⟨_, _, _, _, _, _, _, _, _, _, _, _, _, _, rfl, hxx.keep (Sh.of_fr (Fr.refl [] Z) (fun b hb hlt => ⟨by omega, fun x => by cases x⟩)), by unfold bodyP; exact .may_no HT.out HB0.out (.els (.may_no HT.out HB1.out (.els (.may_yes HT.out HB2.out (.thn (.retP)))))), HP.out, HF.out⟩
set_option maxHeartbeats 16000000 in
set_option maxRecDepth 100000 in
theorem marked_none (ts : List Tok) (hE : EndOk ts) (N : Nat) (ihP : GP ts N 2 .pat 84) (P g c : Nat) (st : St) (a : Int) (w : World) (h : PSt P g c ts st w) (hm : 16 * (ts.length - st.i) < N + 1) (t : Tok) (ht : ts[st.i]? = some t) (hb0 : isB t st.ok [[45]] = false) (hb1 : isB t st.ok [[116, 114, 117, 101]] = false) (hb2 : isB t st.ok [[102, 97, 108, 115, 101]] = false) (hb3 : isB t st.ok [[40]] = false) (hb4 : isB t st.ok [[123]] = false)  : Calls Tryz.prog 131 #[.pointer (some ⟨P, 0, none⟩), .agg #[.int .i64 0, .int .i64 a, .string ⟨#[]⟩, .int .i64 0, .string ⟨#[]⟩, .slice none 0 0, .slice none 0 0]] w (PaOk P g c ts st (bodyP (.marked (.mk 0 a [] 0 [] [] []))) w) := by
 have HB0 := Lib.hid hb0
 clear hb0
 have HB1 := Lib.hid hb1
 clear hb1
 have HB2 := Lib.hid hb2
 clear hb2
 have HB3 := Lib.hid hb3
 clear hb3
 have HB4 := Lib.hid hb4
 clear hb4
 have HT := Lib.hid ht
 clear ht
 have IHP := Lib.hid ihP
 clear ihP
 have H := Lib.hid h
 have hP := lt_of_heap h.blk
 have hgl := h.lt
 have hin := h.inb
 have HN := Lib.hid hm
 have HE := Lib.hid hE
 clear h hm hE
 go_enter Tryz.func131, Tryz.ntmps131
 go_wp2_with fail
 have f0 : Fr [] w ((w.alloc (.cells #[.int .i64 0, .int .i64 a, .string ⟨#[]⟩, .int .i64 0, .string ⟨#[]⟩, .slice none 0 0, .slice none 0 0] 62)).alloc (.cells #[.int .i64 0, .int .i64 0, .string ⟨#[]⟩, .int .i64 0, .string ⟨#[]⟩, .slice none 0 0, .slice none 0 0] 62)) := ((Fr.refl [] w).alloc _).alloc _
 have q0 := heap_old (heap_new w (.cells #[.int .i64 0, .int .i64 a, .string ⟨#[]⟩, .int .i64 0, .string ⟨#[]⟩, .slice none 0 0, .slice none 0 0] 62)) (.cells #[.int .i64 0, .int .i64 0, .string ⟨#[]⟩, .int .i64 0, .string ⟨#[]⟩, .slice none 0 0, .slice none 0 0] 62)
 have g0 := heap_new (w.alloc (.cells #[.int .i64 0, .int .i64 a, .string ⟨#[]⟩, .int .i64 0, .string ⟨#[]⟩, .slice none 0 0, .slice none 0 0] 62)) (.cells #[.int .i64 0, .int .i64 0, .string ⟨#[]⟩, .int .i64 0, .string ⟨#[]⟩, .slice none 0 0, .slice none 0 0] 62)
 have hsz : (w.alloc (.cells #[.int .i64 0, .int .i64 a, .string ⟨#[]⟩, .int .i64 0, .string ⟨#[]⟩, .slice none 0 0, .slice none 0 0] 62)).heap.size = w.heap.size + 1 := by simp
 rw [hsz] at g0
 clear hsz
 have h0 := H.out.fr f0
 have F := f0.mono (L' := [P]) (fun x hx => by cases hx)
 generalize (w.alloc (.cells #[.int .i64 0, .int .i64 a, .string ⟨#[]⟩, .int .i64 0, .string ⟨#[]⟩, .slice none 0 0, .slice none 0 0] 62)).alloc (.cells #[.int .i64 0, .int .i64 0, .string ⟨#[]⟩, .int .i64 0, .string ⟨#[]⟩, .slice none 0 0, .slice none 0 0] 62) = w1 at *
 generalize hT : w.heap.size = T at *
 generalize hB : T + 1 = B at *
 have hPT : P < T := hP
 have hgT : g < T := hgl
 clear f0 hP hgl
 refine (may_no [45] P g c ts st t HT.out HB0.out w1 h0 HE.out).mono ?_
 rintro e x0 ⟨rfl, fm⟩
 have g0 := fm.keep g0 (fun x => by cases x)
 have q0 := fm.keep q0 (fun x => by cases x)
 have F := F.trans0 fm
 have h0 := h0.fr fm
 clear fm
 go_wp2_with fail
 refine (may_no [116, 114, 117, 101] P g c ts st t HT.out HB1.out x0 h0 HE.out).mono ?_
 rintro e x1 ⟨rfl, fm⟩
 have g0 := fm.keep g0 (fun x => by cases x)
 have q0 := fm.keep q0 (fun x => by cases x)
 have F := F.trans0 fm
 have h0 := h0.fr fm
 clear fm
 go_wp2_with fail
 refine (may_no [102, 97, 108, 115, 101] P g c ts st t HT.out HB2.out x1 h0 HE.out).mono ?_
 rintro e x2 ⟨rfl, fm⟩
 have g0 := fm.keep g0 (fun x => by cases x)
 have q0 := fm.keep q0 (fun x => by cases x)
 have F := F.trans0 fm
 have h0 := h0.fr fm
 clear fm
 go_wp2_with fail
 refine (may_no [40] P g c ts st t HT.out HB3.out x2 h0 HE.out).mono ?_
 rintro e x3 ⟨rfl, fm⟩
 have g0 := fm.keep g0 (fun x => by cases x)
 have q0 := fm.keep q0 (fun x => by cases x)
 have F := F.trans0 fm
 have h0 := h0.fr fm
 clear fm
 go_wp2_with fail
 refine (may_no [123] P g c ts st t HT.out HB4.out x3 h0 HE.out).mono ?_
 rintro e x4 ⟨rfl, fm⟩
 have g0 := fm.keep g0 (fun x => by cases x)
 have q0 := fm.keep q0 (fun x => by cases x)
 have F := F.trans0 fm
 have h0 := h0.fr fm
 clear fm
 go_wp2_with fail
 refine (fail_any P g c ts st x4 h0).mono ?_
 rintro e y3 ⟨rfl, h0, fm⟩
 have g0 := fm.keep g0 (by simp; omega)
 have q0 := fm.keep q0 (by simp; omega)
 have F := F.trans fm
 clear fm
 have hBlt := lt_of_heap g0
 have hTlt := lt_of_heap q0
 obtain ⟨⟨l0, l1, l2, l3, l4, l5, l6⟩, _⟩ := cells7 q0
 obtain ⟨⟨u0_, u1, u2, u3, u4, u5, u6⟩, z0, z1, z2, z3, z4, z5, z6⟩ := cells7 g0
 have HG := Lib.hid (st7_heap g0 (.int .i64 0) (.int .i64 a) (.string ⟨#[]⟩) (.int .i64 0) (.string ⟨#[]⟩) (.slice none 0 0) (.slice none 0 0))
 have HF := Lib.hid (F.step (st7_fr y3 B (.int .i64 0) (.int .i64 a) (.string ⟨#[]⟩) (.int .i64 0) (.string ⟨#[]⟩) (.slice none 0 0) (.slice none 0 0)) (fun x hx => .inr (by simp at hx; omega)))
 have HP := Lib.hid (h0.frL (st7_fr y3 B (.int .i64 0) (.int .i64 a) (.string ⟨#[]⟩) (.int .i64 0) (.string ⟨#[]⟩) (.slice none 0 0) (.slice none 0 0)) (by simp; omega) (by simp; omega))
 unfold st7 at HG HF HP 
 go_wp2_with fail
 generalize ((((((y3.setCell ⟨B, 0, none⟩ (.int .i64 0)).setCell ⟨B, 1, none⟩ (.int .i64 a)).setCell ⟨B, 2, none⟩ (.string ⟨#[]⟩)).setCell ⟨B, 3, none⟩ (.int .i64 0)).setCell ⟨B, 4, none⟩ (.string ⟨#[]⟩)).setCell ⟨B, 5, none⟩ (.slice none 0 0)).setCell ⟨B, 6, none⟩ (.slice none 0 0) = Z at HG HF HP  ⊢
 obtain ⟨⟨d0, d1, d2, d3, d4, d5, d6⟩, _⟩ := cells7 HG.out
 have hxx := PatAt.of_rows (w := Z) (ok := fun b => B ≤ b) (k := 0) (a := a) (nm := []) (n := 0) (s := []) (c5 := fun _ => []) RowG.nil_ (c6 := fun _ => []) RowG.nil_
 refine bodyPost_ret (v := .agg #[.int .i64 0, .int .i64 a, .string ⟨#[]⟩, .int .i64 0, .string ⟨#[]⟩, .slice none 0 0, .slice none 0 0]) ?_ rfl ?_
 ·simp [results, Tryz.f131, go_sem, d0, d1, d2, d3, d4, d5, d6]
 ·exact ⟨_, _, _, _, _, _, _, _, _, _, _, _, _, _, rfl, hxx.keep (Sh.of_fr (Fr.refl [] Z) (fun b hb hlt => ⟨by omega, fun x => by cases x⟩)), by unfold bodyP; exact .may_no HT.out HB0.out (.els (.may_no HT.out HB1.out (.els (.may_no HT.out HB2.out (.els (.may_no HT.out HB3.out (.els (.may_no HT.out HB4.out (.els (.fail .retP)))))))))), HP.out, HF.out⟩
end Go.Proofs.YtpjkfeehgookkaaGreatDoor
namespace Go.Proofs.YtpjkfeehgookkaaGreatDoor
open Go.RowKit
attribute [local go_sem ↓] Go.wp_at_zero Go.wp_at_succ
set_option maxHeartbeats 16000000 in
set_option maxRecDepth 100000 in
theorem marked_paren (ts : List Tok) (hE : EndOk ts) (N : Nat) (ihP : GP ts N 2 .pat 84) (P g c : Nat) (st : St) (a : Int) (w : World) (h : PSt P g c ts st w) (hm : 16 * (ts.length - st.i) < N + 1) (t : Tok) (ht : ts[st.i]? = some t) (hb0 : isB t st.ok [[45]] = false) (hb1 : isB t st.ok [[116, 114, 117, 101]] = false) (hb2 : isB t st.ok [[102, 97, 108, 115, 101]] = false) (hb3 : isB t st.ok [[40]] = true)  : Calls Tryz.prog 131 #[.pointer (some ⟨P, 0, none⟩), .agg #[.int .i64 0, .int .i64 a, .string ⟨#[]⟩, .int .i64 0, .string ⟨#[]⟩, .slice none 0 0, .slice none 0 0]] w (PaOk P g c ts st (bodyP (.marked (.mk 0 a [] 0 [] [] []))) w) := by
 have HB0 := Lib.hid hb0
 clear hb0
 have HB1 := Lib.hid hb1
 clear hb1
 have HB2 := Lib.hid hb2
 clear hb2
 have HB3 := Lib.hid hb3
 clear hb3
 have HT := Lib.hid ht
 clear ht
 have IHP := Lib.hid ihP
 clear ihP
 have H := Lib.hid h
 have hP := lt_of_heap h.blk
 have hgl := h.lt
 have hin := h.inb
 have HN := Lib.hid hm
 have HE := Lib.hid hE
 clear h hm hE
 go_enter Tryz.func131, Tryz.ntmps131
 go_wp2_with fail
 have f0 : Fr [] w ((w.alloc (.cells #[.int .i64 0, .int .i64 a, .string ⟨#[]⟩, .int .i64 0, .string ⟨#[]⟩, .slice none 0 0, .slice none 0 0] 62)).alloc (.cells #[.int .i64 0, .int .i64 0, .string ⟨#[]⟩, .int .i64 0, .string ⟨#[]⟩, .slice none 0 0, .slice none 0 0] 62)) := ((Fr.refl [] w).alloc _).alloc _
 have q0 := heap_old (heap_new w (.cells #[.int .i64 0, .int .i64 a, .string ⟨#[]⟩, .int .i64 0, .string ⟨#[]⟩, .slice none 0 0, .slice none 0 0] 62)) (.cells #[.int .i64 0, .int .i64 0, .string ⟨#[]⟩, .int .i64 0, .string ⟨#[]⟩, .slice none 0 0, .slice none 0 0] 62)
 have g0 := heap_new (w.alloc (.cells #[.int .i64 0, .int .i64 a, .string ⟨#[]⟩, .int .i64 0, .string ⟨#[]⟩, .slice none 0 0, .slice none 0 0] 62)) (.cells #[.int .i64 0, .int .i64 0, .string ⟨#[]⟩, .int .i64 0, .string ⟨#[]⟩, .slice none 0 0, .slice none 0 0] 62)
 have hsz : (w.alloc (.cells #[.int .i64 0, .int .i64 a, .string ⟨#[]⟩, .int .i64 0, .string ⟨#[]⟩, .slice none 0 0, .slice none 0 0] 62)).heap.size = w.heap.size + 1 := by simp
 rw [hsz] at g0
 clear hsz
 have h0 := H.out.fr f0
 have F := f0.mono (L' := [P]) (fun x hx => by cases hx)
 generalize (w.alloc (.cells #[.int .i64 0, .int .i64 a, .string ⟨#[]⟩, .int .i64 0, .string ⟨#[]⟩, .slice none 0 0, .slice none 0 0] 62)).alloc (.cells #[.int .i64 0, .int .i64 0, .string ⟨#[]⟩, .int .i64 0, .string ⟨#[]⟩, .slice none 0 0, .slice none 0 0] 62) = w1 at *
 generalize hT : w.heap.size = T at *
 generalize hB : T + 1 = B at *
 have hPT : P < T := hP
 have hgT : g < T := hgl
 clear f0 hP hgl
 refine (may_no [45] P g c ts st t HT.out HB0.out w1 h0 HE.out).mono ?_
 rintro e x0 ⟨rfl, fm⟩
 have g0 := fm.keep g0 (fun x => by cases x)
 have q0 := fm.keep q0 (fun x => by cases x)
 have F := F.trans0 fm
 have h0 := h0.fr fm
 clear fm
 go_wp2_with fail
 refine (may_no [116, 114, 117, 101] P g c ts st t HT.out HB1.out x0 h0 HE.out).mono ?_
 rintro e x1 ⟨rfl, fm⟩
 have g0 := fm.keep g0 (fun x => by cases x)
 have q0 := fm.keep q0 (fun x => by cases x)
 have F := F.trans0 fm
 have h0 := h0.fr fm
 clear fm
 go_wp2_with fail
 refine (may_no [102, 97, 108, 115, 101] P g c ts st t HT.out HB2.out x1 h0 HE.out).mono ?_
 rintro e x2 ⟨rfl, fm⟩
 have g0 := fm.keep g0 (fun x => by cases x)
 have q0 := fm.keep q0 (fun x => by cases x)
 have F := F.trans0 fm
 have h0 := h0.fr fm
 clear fm
 go_wp2_with fail
 refine (may_yes [40] P g c ts st t HT.out HB3.out x2 h0 HE.out).mono ?_
 rintro e y1 ⟨rfl, h0, fm⟩
 have g0 := fm.keep g0 (by simp; omega)
 have q0 := fm.keep q0 (by simp; omega)
 have F := F.trans fm
 clear fm
 go_wp2_with fail
 obtain ⟨u, hu⟩ := tok_at h0.inb
 cases hb : isB u st.ok [[41]] with
 | true =>
  refine (may_yes [41] P g c ts ⟨st.i + 1, st.ok⟩ u hu hb y1 h0 HE.out).mono ?_
  rintro e y2 ⟨rfl, h0, fm⟩
  have g0 := fm.keep g0 (by simp; omega)
  have q0 := fm.keep q0 (by simp; omega)
  have F := F.trans fm
  clear fm
  obtain ⟨⟨m0, m1, m2, m3, m4, m5, m6⟩, j0, j1, j2, j3, j4, j5, j6⟩ := cells7 q0
  obtain ⟨⟨u0_, u1, u2, u3, u4, u5, u6⟩, z0, z1, z2, z3, z4, z5, z6⟩ := cells7 g0
  have hTx := lt_of_heap q0
  have hBx := lt_of_heap g0
  have nBT : ¬ B = T := by omega
  have nTB : ¬ T = B := by omega
  have fs := ((Fr.refl [T] y2).setCell (p := ⟨T, 0, none⟩) (.inl (by simp)) (.int .i64 6))
  have g0 := fs.keep g0 (by simp; omega)
  have h0 := h0.frL fs (by simp; omega) (by simp; omega)
  have F := F.step fs (fun x hx => .inr (by simp at hx; omega))
  have HG := Lib.hid (st7_heap g0 (.int .i64 6) (.int .i64 a) (.string ⟨#[]⟩) (.int .i64 0) (.string ⟨#[]⟩) (.slice none 0 0) (.slice none 0 0))
  have HF := Lib.hid (F.step (st7_fr (y2.setCell ⟨T, 0, none⟩ (.int .i64 6)) B (.int .i64 6) (.int .i64 a) (.string ⟨#[]⟩) (.int .i64 0) (.string ⟨#[]⟩) (.slice none 0 0) (.slice none 0 0)) (fun x hx => .inr (by simp at hx; omega)))
  have HP := Lib.hid (h0.frL (st7_fr (y2.setCell ⟨T, 0, none⟩ (.int .i64 6)) B (.int .i64 6) (.int .i64 a) (.string ⟨#[]⟩) (.int .i64 0) (.string ⟨#[]⟩) (.slice none 0 0) (.slice none 0 0)) (by simp; omega) (by simp; omega))
  unfold st7 at HG HF HP 
  go_wp2_with fail
  generalize (((((((y2.setCell ⟨T, 0, none⟩ (.int .i64 6)).setCell ⟨B, 0, none⟩ (.int .i64 6)).setCell ⟨B, 1, none⟩ (.int .i64 a)).setCell ⟨B, 2, none⟩ (.string ⟨#[]⟩)).setCell ⟨B, 3, none⟩ (.int .i64 0)).setCell ⟨B, 4, none⟩ (.string ⟨#[]⟩)).setCell ⟨B, 5, none⟩ (.slice none 0 0)).setCell ⟨B, 6, none⟩ (.slice none 0 0) = Z at HG HF HP  ⊢
  obtain ⟨⟨d0, d1, d2, d3, d4, d5, d6⟩, _⟩ := cells7 HG.out
  have hxx := PatAt.of_rows (w := Z) (ok := fun b => B ≤ b) (k := 6) (a := a) (nm := []) (n := 0) (s := []) (c5 := fun _ => []) RowG.nil_ (c6 := fun _ => []) RowG.nil_
  refine bodyPost_ret (v := .agg #[.int .i64 6, .int .i64 a, .string ⟨#[]⟩, .int .i64 0, .string ⟨#[]⟩, .slice none 0 0, .slice none 0 0]) ?_ rfl ?_
  ·simp [results, Tryz.f131, go_sem, d0, d1, d2, d3, d4, d5, d6]
  ·exact ⟨_, _, _, _, _, _, _, _, _, _, _, _, _, _, rfl, hxx.keep (Sh.of_fr (Fr.refl [] Z) (fun b hb hlt => ⟨by omega, fun x => by cases x⟩)), by unfold bodyP; exact .may_no HT.out HB0.out (.els (.may_no HT.out HB1.out (.els (.may_no HT.out HB2.out (.els (.may_yes HT.out HB3.out (.thn (.may_yes hu hb (.thn .retP))))))))), HP.out, HF.out⟩
 | false =>
  refine (may_no [41] P g c ts ⟨st.i + 1, st.ok⟩ u hu hb y1 h0 HE.out).mono ?_
  rintro e y2 ⟨rfl, fm⟩
  have g0 := fm.keep g0 (fun x => by cases x)
  have q0 := fm.keep q0 (fun x => by cases x)
  have F := F.trans0 fm
  have h0 := h0.fr fm
  clear fm
  go_wp2_with fail
  have hBy2 := lt_of_heap g0
  refine (IHP.out P g c ⟨st.i + 1, st.ok⟩ y2 h0 (by have := HN.out; have := h0.inb; simp only at this ⊢; omega)).mono ?_
  rintro e y3 ⟨k2, a2, nm2, n2, s2, ls2, args2, A52, n52, c52, A62, n62, c62, st2, rfl, hx2, hr2, hst2, fm⟩
  have g0 := fm.keep g0 (by simp; omega)
  have q0 := fm.keep q0 (by simp; omega)
  have F := F.trans fm
  have hs2 := fm.size
  have hx2 := hx2.keep (ok' := fun b => B < b ∧ ¬ b = T ∧ ¬ b = P) (Sh.of_fr (Fr.refl [] y3) (fun b hb hlt => ⟨by have : y2.heap.size ≤ b := hb; exact ⟨by omega, by omega, by omega⟩, fun x => by cases x⟩))
  obtain ⟨⟨m0, m1, m2, m3, m4, m5, m6⟩, j0, j1, j2, j3, j4, j5, j6⟩ := cells7 q0
  have hTx := lt_of_heap q0
  have fs := st7_fr y3 T (.int .i64 k2) (.int .i64 a2) (.string ⟨nm2.toArray⟩) (.int .i64 n2) (.string ⟨s2.toArray⟩) (.slice A52 n52 c52) (.slice A62 n62 c62)
  have q1 := st7_heap q0 (.int .i64 k2) (.int .i64 a2) (.string ⟨nm2.toArray⟩) (.int .i64 n2) (.string ⟨s2.toArray⟩) (.slice A52 n52 c52) (.slice A62 n62 c62)
  have g0 := fs.keep g0 (by simp; omega)
  have h0 := hst2.frL fs (by simp; omega) (by simp; omega)
  have F := F.step fs (fun x hx => .inr (by simp at hx; omega))
  have hx2 := hx2.keep (ok' := fun b => B < b ∧ ¬ b = T ∧ ¬ b = P) (Sh.of_fr fs (fun b hb hlt => ⟨hb, by simp; exact hb.2.1⟩))
  have HQ := Lib.hid q1
  have HG1 := Lib.hid g0
  have HH1 := Lib.hid h0
  have HF1 := Lib.hid F
  have HX1 := Lib.hid hx2
  unfold st7 at HQ HG1 HH1 HF1 HX1
  clear q0 q1 g0 h0 F hx2 fs fm hst2
  go_wp2_with fail
  clear m0 m1 m2 m3 m4 m5 m6 j0 j1 j2 j3 j4 j5 j6
  generalize ((((((y3.setCell ⟨T, 0, none⟩ (.int .i64 k2)).setCell ⟨T, 1, none⟩ (.int .i64 a2)).setCell ⟨T, 2, none⟩ (.string ⟨nm2.toArray⟩)).setCell ⟨T, 3, none⟩ (.int .i64 n2)).setCell ⟨T, 4, none⟩ (.string ⟨s2.toArray⟩)).setCell ⟨T, 5, none⟩ (.slice A52 n52 c52)).setCell ⟨T, 6, none⟩ (.slice A62 n62 c62) = y4 at *
  have q0 := HQ.out
  have g0 := HG1.out
  have h0 := HH1.out
  have F := HF1.out
  have hx2 := HX1.out
  clear HQ HG1 HH1 HF1 HX1
  obtain ⟨v, hv⟩ := tok_at h0.inb
  refine (must_any [41] P g c ts st2 v hv y4 h0 HE.out).mono ?_
  rintro e y5 ⟨rfl, h0, fm⟩
  have g0 := fm.keep g0 (by simp; omega)
  have q0 := fm.keep q0 (by simp; omega)
  have F := F.trans fm
  have hx2 := hx2.keep (ok' := fun b => B < b) (Sh.of_fr fm (fun b hb hlt => ⟨hb.1, by simp; exact hb.2.2⟩))
  clear fm
  have hBlt := lt_of_heap g0
  have hTlt := lt_of_heap q0
  obtain ⟨⟨l0, l1, l2, l3, l4, l5, l6⟩, _⟩ := cells7 q0
  obtain ⟨⟨u0_, u1, u2, u3, u4, u5, u6⟩, z0, z1, z2, z3, z4, z5, z6⟩ := cells7 g0
  have HG := Lib.hid (st7_heap g0 (.int .i64 k2) (.int .i64 a2) (.string ⟨nm2.toArray⟩) (.int .i64 n2) (.string ⟨s2.toArray⟩) (.slice A52 n52 c52) (.slice A62 n62 c62))
  have HF := Lib.hid (F.step (st7_fr y5 B (.int .i64 k2) (.int .i64 a2) (.string ⟨nm2.toArray⟩) (.int .i64 n2) (.string ⟨s2.toArray⟩) (.slice A52 n52 c52) (.slice A62 n62 c62)) (fun x hx => .inr (by simp at hx; omega)))
  have HP := Lib.hid (h0.frL (st7_fr y5 B (.int .i64 k2) (.int .i64 a2) (.string ⟨nm2.toArray⟩) (.int .i64 n2) (.string ⟨s2.toArray⟩) (.slice A52 n52 c52) (.slice A62 n62 c62)) (by simp; omega) (by simp; omega))
  have HX : Hid (PatAt (st7 y5 B (.int .i64 k2) (.int .i64 a2) (.string ⟨nm2.toArray⟩) (.int .i64 n2) (.string ⟨s2.toArray⟩) (.slice A52 n52 c52) (.slice A62 n62 c62)) (fun b => w.heap.size ≤ b) (.mk k2 a2 nm2 n2 s2 ls2 args2) [.int .i64 k2, .int .i64 a2, .string ⟨nm2.toArray⟩, .int .i64 n2, .string ⟨s2.toArray⟩, .slice A52 n52 c52, .slice A62 n62 c62]) := Lib.hid ((hx2).keep (Sh.of_fr (st7_fr y5 B (.int .i64 k2) (.int .i64 a2) (.string ⟨nm2.toArray⟩) (.int .i64 n2) (.string ⟨s2.toArray⟩) (.slice A52 n52 c52) (.slice A62 n62 c62)) (fun b hb hlt => ⟨by omega, by simp; omega⟩)))
  unfold st7 at HG HF HP HX
  clear hx2
  go_wp2_with fail
  generalize ((((((y5.setCell ⟨B, 0, none⟩ (.int .i64 k2)).setCell ⟨B, 1, none⟩ (.int .i64 a2)).setCell ⟨B, 2, none⟩ (.string ⟨nm2.toArray⟩)).setCell ⟨B, 3, none⟩ (.int .i64 n2)).setCell ⟨B, 4, none⟩ (.string ⟨s2.toArray⟩)).setCell ⟨B, 5, none⟩ (.slice A52 n52 c52)).setCell ⟨B, 6, none⟩ (.slice A62 n62 c62) = Z at HG HF HP HX ⊢
  obtain ⟨⟨d0, d1, d2, d3, d4, d5, d6⟩, _⟩ := cells7 HG.out
  refine bodyPost_ret (v := .agg #[.int .i64 k2, .int .i64 a2, .string ⟨nm2.toArray⟩, .int .i64 n2, .string ⟨s2.toArray⟩, .slice A52 n52 c52, .slice A62 n62 c62]) ?_ rfl ?_
  ·simp [results, Tryz.f131, go_sem, d0, d1, d2, d3, d4, d5, d6]
  ·exact ⟨_, _, _, _, _, _, _, _, _, _, _, _, _, _, rfl, HX.out, by unfold bodyP; exact .may_no HT.out HB0.out (.els (.may_no HT.out HB1.out (.els (.may_no HT.out HB2.out (.els (.may_yes HT.out HB3.out (.thn (.may_no hu hb (.els (.callP hr2 (.must_ hv .retP))))))))))), HP.out, HF.out⟩
end Go.Proofs.YtpjkfeehgookkaaGreatDoor
