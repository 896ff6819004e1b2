/- What the claim's theorem leans on. -/
import Derived.Deep.DrawnRows
import Derived.Test.YtpjkfeehgookkaaGreatDoorCards
import Derived.Test.YtpjkfeehgookkaaGreatDoorTie
import Derived.SizedLaws
import Derived.Shelf.Vars
import Derived.WalkKit
import Derived.ProofKit
import Derived.OpenShut
import Derived.LaidMore
import Derived.Carry
import Derived.Deep.DeepHandedRow
import Derived.Deep.DeepWitnessRowRef
import Derived.Lib.LaidTab
import Derived.Lib.LaidU8
import Derived.Stop.LaidErr
import Derived.Test.YtpjkfeehgookkaaGreatDoorCb5
namespace Go.Proofs.YtpjkfeehgookkaaGreatDoor
open Go.RowKit
attribute [local go_sem ↓] Go.wp_at_zero Go.wp_at_succ
def LKp (a : Int) (ls : List (List UInt8)) (args : List PatT) : Cmd := .look fun _ ok => if ok = true then .callP (.recL a ls args) .retP else mustC [125] (.retP (.mk 9 a [] 0 [] ls args))
def ENDp (a : Int) (ls : List (List UInt8)) (args : List PatT) : Cmd := mustC [125] (.retP (.mk 9 a [] 0 [] ls args))
theorem LKp_no {ts : List Tok} {a : Int} {ls : List (List UInt8)} {args : List PatT} {st st' : St} {r : Rs} {t : Tok} (ht : ts[st.i]? = some t) (hok : st.ok = false) (h : Run ts (ENDp a ls args) st r st') : Run ts (LKp a ls args) st r st' :=
 .look ht (by rw [hok, if_neg (by decide)]; exact h)
theorem recP_round {ts : List Tok} {a : Int} {ls : List (List UInt8)} {args : List PatT} {st0 st3 : St} {y : PatT} {u u1 v : Tok} (hu : ts[st0.i]? = some u) (hok : st0.ok = true) (hu1 : ts[(nameS u st0).i]? = some u1)
  (hs : Run ts (bodyP .pat) (mustS u1 (nameS u st0) [61]) (.p y) st3) (hv : ts[st3.i]? = some v) {b : Bool} (hb : isB v st3.ok [[44]] = b) {z : PatT} {st' : St}
  (h : Run ts (if b = true then LKp a (ls ++ [nameT u st0]) (args ++ [y]) else ENDp a (ls ++ [nameT u st0]) (args ++ [y])) (if b = true then ⟨st3.i + 1, st3.ok⟩ else st3) (.p z) st') : Run ts (LKp a ls args) st0 (.p z) st' := by
 refine .look hu ?_
 rw [hok, if_pos rfl]
 unfold nameS at hu1 hs
 refine .callP ?_ .retP
 unfold bodyP
 refine .name_ hu (.must_ hu1 (.callP hs ?_))
 cases b with
 | true =>
  rw [if_pos rfl, if_pos rfl] at h
  refine .may_yes hv hb (.thn ?_)
  cases h with
  | look h1 hk =>
   have e : st3.ok = true := (isB_ok hb).1
   have hk : Run ts (if st3.ok = true then _ else _) _ _ _ := hk
   rw [e, if_pos rfl] at hk
   rw [e]
   exact hk
 | false =>
  rw [if_neg (by decide), if_neg (by decide)] at h
  exact .may_no hv hb (.els h)
set_option maxHeartbeats 16000000 in
set_option maxRecDepth 100000 in
theorem marked_empty (ts : List Tok) (hE : EndOk ts) (N : Nat) (ihP : GP ts N 2 .pat 84) (P g c : Nat) (st : St) (a : Int) (w : World) (h : PSt P g c ts st w) (hm : 16 * (ts.length - st.i) < N + 1) (t : Tok) (ht : ts[st.i]? = some t) (hb0 : isB t st.ok [[45]] = false) (hb1 : isB t st.ok [[116, 114, 117, 101]] = false) (hb2 : isB t st.ok [[102, 97, 108, 115, 101]] = false) (hb3 : isB t st.ok [[40]] = false) (hb4 : isB t st.ok [[123]] = true) (u : Tok) (hu : ts[st.i + 1]? = some u) (hb : isB u st.ok [[125]] = true) : Calls Tryz.prog 131 #[.pointer (some ⟨P, 0, none⟩), .agg #[.int .i64 0, .int .i64 a, .string ⟨#[]⟩, .int .i64 0, .string ⟨#[]⟩, .slice none 0 0, .slice none 0 0]] w (PaOk P g c ts st (bodyP (.marked (.mk 0 a [] 0 [] [] []))) w) := by
 have HU := Lib.hid hu
 clear hu
 have HB := Lib.hid hb
 clear hb
 have HB0 := Lib.hid hb0
 clear hb0
 have HB1 := Lib.hid hb1
 clear hb1
 have HB2 := Lib.hid hb2
 clear hb2
 have HB3 := Lib.hid hb3
 clear hb3
 have HB4 := Lib.hid hb4
 clear hb4
 have HT := Lib.hid ht
 clear ht
 have IHP := Lib.hid ihP
 clear ihP
 have H := Lib.hid h
 have hP := lt_of_heap h.blk
 have hgl := h.lt
 have hin := h.inb
 have HN := Lib.hid hm
 have HE := Lib.hid hE
 clear h hm hE
 go_enter Tryz.func131, Tryz.ntmps131
 go_wp2_with fail
 have f0 : Fr [] w ((w.alloc (.cells #[.int .i64 0, .int .i64 a, .string ⟨#[]⟩, .int .i64 0, .string ⟨#[]⟩, .slice none 0 0, .slice none 0 0] 62)).alloc (.cells #[.int .i64 0, .int .i64 0, .string ⟨#[]⟩, .int .i64 0, .string ⟨#[]⟩, .slice none 0 0, .slice none 0 0] 62)) := ((Fr.refl [] w).alloc _).alloc _
 have q0 := heap_old (heap_new w (.cells #[.int .i64 0, .int .i64 a, .string ⟨#[]⟩, .int .i64 0, .string ⟨#[]⟩, .slice none 0 0, .slice none 0 0] 62)) (.cells #[.int .i64 0, .int .i64 0, .string ⟨#[]⟩, .int .i64 0, .string ⟨#[]⟩, .slice none 0 0, .slice none 0 0] 62)
 have g0 := heap_new (w.alloc (.cells #[.int .i64 0, .int .i64 a, .string ⟨#[]⟩, .int .i64 0, .string ⟨#[]⟩, .slice none 0 0, .slice none 0 0] 62)) (.cells #[.int .i64 0, .int .i64 0, .string ⟨#[]⟩, .int .i64 0, .string ⟨#[]⟩, .slice none 0 0, .slice none 0 0] 62)
 have hsz : (w.alloc (.cells #[.int .i64 0, .int .i64 a, .string ⟨#[]⟩, .int .i64 0, .string ⟨#[]⟩, .slice none 0 0, .slice none 0 0] 62)).heap.size = w.heap.size + 1 := by simp
 rw [hsz] at g0
 clear hsz
 have h0 := H.out.fr f0
 have F := f0.mono (L' := [P]) (fun x hx => by cases hx)
 generalize (w.alloc (.cells #[.int .i64 0, .int .i64 a, .string ⟨#[]⟩, .int .i64 0, .string ⟨#[]⟩, .slice none 0 0, .slice none 0 0] 62)).alloc (.cells #[.int .i64 0, .int .i64 0, .string ⟨#[]⟩, .int .i64 0, .string ⟨#[]⟩, .slice none 0 0, .slice none 0 0] 62) = w1 at *
 generalize hT : w.heap.size = T at *
 generalize hB : T + 1 = B at *
 have hPT : P < T := hP
 have hgT : g < T := hgl
 clear f0 hP hgl
 refine (may_no [45] P g c ts st t HT.out HB0.out w1 h0 HE.out).mono ?_
 rintro e x0 ⟨rfl, fm⟩
 have g0 := fm.keep g0 (fun x => by cases x)
 have q0 := fm.keep q0 (fun x => by cases x)
 have F := F.trans0 fm
 have h0 := h0.fr fm
 clear fm
 go_wp2_with fail
 refine (may_no [116, 114, 117, 101] P g c ts st t HT.out HB1.out x0 h0 HE.out).mono ?_
 rintro e x1 ⟨rfl, fm⟩
 have g0 := fm.keep g0 (fun x => by cases x)
 have q0 := fm.keep q0 (fun x => by cases x)
 have F := F.trans0 fm
 have h0 := h0.fr fm
 clear fm
 go_wp2_with fail
 refine (may_no [102, 97, 108, 115, 101] P g c ts st t HT.out HB2.out x1 h0 HE.out).mono ?_
 rintro e x2 ⟨rfl, fm⟩
 have g0 := fm.keep g0 (fun x => by cases x)
 have q0 := fm.keep q0 (fun x => by cases x)
 have F := F.trans0 fm
 have h0 := h0.fr fm
 clear fm
 go_wp2_with fail
 refine (may_no [40] P g c ts st t HT.out HB3.out x2 h0 HE.out).mono ?_
 rintro e x3 ⟨rfl, fm⟩
 have g0 := fm.keep g0 (fun x => by cases x)
 have q0 := fm.keep q0 (fun x => by cases x)
 have F := F.trans0 fm
 have h0 := h0.fr fm
 clear fm
 go_wp2_with fail
 refine (may_yes [123] P g c ts st t HT.out HB4.out x3 h0 HE.out).mono ?_
 rintro e y1 ⟨rfl, h0, fm⟩
 have g0 := fm.keep g0 (by simp; omega)
 have q0 := fm.keep q0 (by simp; omega)
 have F := F.trans fm
 clear fm
 obtain ⟨⟨m0, m1, m2, m3, m4, m5, m6⟩, j0, j1, j2, j3, j4, j5, j6⟩ := cells7 q0
 have hTx := lt_of_heap q0
 have q1 : (y1.setCell ⟨T, 0, none⟩ (.int .i64 9)).heap[T]? = some (.cells #[.int .i64 9, .int .i64 a, .string ⟨#[]⟩, .int .i64 0, .string ⟨#[]⟩, .slice none 0 0, .slice none 0 0] 62 (0, 0)) := set_at q0 0 _
 have fs := (Fr.refl [T] y1).setCell (p := ⟨T, 0, none⟩) (.inl (by simp)) (.int .i64 9)
 have g0 := fs.keep g0 (by simp; omega)
 have h0 := h0.frL fs (by simp; omega) (by simp; omega)
 have F := F.step fs (fun x hx => .inr (by simp at hx; omega))
 have HQ := Lib.hid q1
 clear q0 q1 fs
 go_wp2_with fail
 clear m0 m1 m2 m3 m4 m5 m6 j0 j1 j2 j3 j4 j5 j6
 have q0 := HQ.out
 clear HQ
 generalize y1.setCell ⟨T, 0, none⟩ (.int .i64 9) = y1n at *
 refine (may_yes [125] P g c ts ⟨st.i + 1, st.ok⟩ u HU.out HB.out y1n h0 HE.out).mono ?_
 rintro e y2 ⟨rfl, h0, fm⟩
 have g0 := fm.keep g0 (by simp; omega)
 have q0 := fm.keep q0 (by simp; omega)
 have F := F.trans fm
 clear fm
 have hBlt := lt_of_heap g0
 have hTlt := lt_of_heap q0
 obtain ⟨⟨l0, l1, l2, l3, l4, l5, l6⟩, _⟩ := cells7 q0
 obtain ⟨⟨u0_, u1, u2, u3, u4, u5, u6⟩, z0, z1, z2, z3, z4, z5, z6⟩ := cells7 g0
 have HG := Lib.hid (st7_heap g0 (.int .i64 9) (.int .i64 a) (.string ⟨#[]⟩) (.int .i64 0) (.string ⟨#[]⟩) (.slice none 0 0) (.slice none 0 0))
 have HF := Lib.hid (F.step (st7_fr y2 B (.int .i64 9) (.int .i64 a) (.string ⟨#[]⟩) (.int .i64 0) (.string ⟨#[]⟩) (.slice none 0 0) (.slice none 0 0)) (fun x hx => .inr (by simp at hx; omega)))
 have HP := Lib.hid (h0.frL (st7_fr y2 B (.int .i64 9) (.int .i64 a) (.string ⟨#[]⟩) (.int .i64 0) (.string ⟨#[]⟩) (.slice none 0 0) (.slice none 0 0)) (by simp; omega) (by simp; omega))
 unfold st7 at HG HF HP 
 go_wp2_with fail
 generalize ((((((y2.setCell ⟨B, 0, none⟩ (.int .i64 9)).setCell ⟨B, 1, none⟩ (.int .i64 a)).setCell ⟨B, 2, none⟩ (.string ⟨#[]⟩)).setCell ⟨B, 3, none⟩ (.int .i64 0)).setCell ⟨B, 4, none⟩ (.string ⟨#[]⟩)).setCell ⟨B, 5, none⟩ (.slice none 0 0)).setCell ⟨B, 6, none⟩ (.slice none 0 0) = Z at HG HF HP  ⊢
 obtain ⟨⟨d0, d1, d2, d3, d4, d5, d6⟩, _⟩ := cells7 HG.out
 have hxx := PatAt.of_rows (w := Z) (ok := fun b => B ≤ b) (k := 9) (a := a) (nm := []) (n := 0) (s := []) (c5 := fun _ => []) RowG.nil_ (c6 := fun _ => []) RowG.nil_
 refine bodyPost_ret (v := .agg #[.int .i64 9, .int .i64 a, .string ⟨#[]⟩, .int .i64 0, .string ⟨#[]⟩, .slice none 0 0, .slice none 0 0]) ?_ rfl ?_
 ·simp [results, Tryz.f131, go_sem, d0, d1, d2, d3, d4, d5, d6]
 ·exact ⟨_, _, _, _, _, _, _, _, _, _, _, _, _, _, rfl, hxx.keep (Sh.of_fr (Fr.refl [] Z) (fun b hb hlt => ⟨by omega, fun x => by cases x⟩)), by unfold bodyP; exact .may_no HT.out HB0.out (.els (.may_no HT.out HB1.out (.els (.may_no HT.out HB2.out (.els (.may_no HT.out HB3.out (.els (.may_yes HT.out HB4.out (.thn (.may_yes HU.out HB.out (.thn .retP))))))))))), HP.out, HF.out⟩
set_option maxHeartbeats 16000000 in
set_option maxRecDepth 100000 in
theorem marked_rec (ts : List Tok) (hE : EndOk ts) (N : Nat) (ihP : GP ts N 2 .pat 84) (P g c : Nat) (st : St) (a : Int) (w : World) (h : PSt P g c ts st w) (hm : 16 * (ts.length - st.i) < N + 1) (t : Tok) (ht : ts[st.i]? = some t) (hb0 : isB t st.ok [[45]] = false) (hb1 : isB t st.ok [[116, 114, 117, 101]] = false) (hb2 : isB t st.ok [[102, 97, 108, 115, 101]] = false) (hb3 : isB t st.ok [[40]] = false) (hb4 : isB t st.ok [[123]] = true) (u_ : Tok) (hu : ts[st.i + 1]? = some u_) (hb : isB u_ st.ok [[125]] = false) : Calls Tryz.prog 131 #[.pointer (some ⟨P, 0, none⟩), .agg #[.int .i64 0, .int .i64 a, .string ⟨#[]⟩, .int .i64 0, .string ⟨#[]⟩, .slice none 0 0, .slice none 0 0]] w (PaOk P g c ts st (bodyP (.marked (.mk 0 a [] 0 [] [] []))) w) := by
 have HU := Lib.hid hu
 clear hu
 have HB := Lib.hid hb
 clear hb
 have HB0 := Lib.hid hb0
 clear hb0
 have HB1 := Lib.hid hb1
 clear hb1
 have HB2 := Lib.hid hb2
 clear hb2
 have HB3 := Lib.hid hb3
 clear hb3
 have HB4 := Lib.hid hb4
 clear hb4
 have HT := Lib.hid ht
 clear ht
 have IHP := Lib.hid ihP
 clear ihP
 have H := Lib.hid h
 have hP := lt_of_heap h.blk
 have hgl := h.lt
 have hin := h.inb
 have HN := Lib.hid hm
 have HE := Lib.hid hE
 clear h hm hE
 go_enter Tryz.func131, Tryz.ntmps131
 go_wp2_with fail
 have f0 : Fr [] w ((w.alloc (.cells #[.int .i64 0, .int .i64 a, .string ⟨#[]⟩, .int .i64 0, .string ⟨#[]⟩, .slice none 0 0, .slice none 0 0] 62)).alloc (.cells #[.int .i64 0, .int .i64 0, .string ⟨#[]⟩, .int .i64 0, .string ⟨#[]⟩, .slice none 0 0, .slice none 0 0] 62)) := ((Fr.refl [] w).alloc _).alloc _
 have q0 := heap_old (heap_new w (.cells #[.int .i64 0, .int .i64 a, .string ⟨#[]⟩, .int .i64 0, .string ⟨#[]⟩, .slice none 0 0, .slice none 0 0] 62)) (.cells #[.int .i64 0, .int .i64 0, .string ⟨#[]⟩, .int .i64 0, .string ⟨#[]⟩, .slice none 0 0, .slice none 0 0] 62)
 have g0 := heap_new (w.alloc (.cells #[.int .i64 0, .int .i64 a, .string ⟨#[]⟩, .int .i64 0, .string ⟨#[]⟩, .slice none 0 0, .slice none 0 0] 62)) (.cells #[.int .i64 0, .int .i64 0, .string ⟨#[]⟩, .int .i64 0, .string ⟨#[]⟩, .slice none 0 0, .slice none 0 0] 62)
 have hsz : (w.alloc (.cells #[.int .i64 0, .int .i64 a, .string ⟨#[]⟩, .int .i64 0, .string ⟨#[]⟩, .slice none 0 0, .slice none 0 0] 62)).heap.size = w.heap.size + 1 := by simp
 rw [hsz] at g0
 clear hsz
 have h0 := H.out.fr f0
 have F := f0.mono (L' := [P]) (fun x hx => by cases hx)
 generalize (w.alloc (.cells #[.int .i64 0, .int .i64 a, .string ⟨#[]⟩, .int .i64 0, .string ⟨#[]⟩, .slice none 0 0, .slice none 0 0] 62)).alloc (.cells #[.int .i64 0, .int .i64 0, .string ⟨#[]⟩, .int .i64 0, .string ⟨#[]⟩, .slice none 0 0, .slice none 0 0] 62) = w1 at *
 generalize hT : w.heap.size = T at *
 generalize hB : T + 1 = B at *
 have hPT : P < T := hP
 have hgT : g < T := hgl
 clear f0 hP hgl
 refine (may_no [45] P g c ts st t HT.out HB0.out w1 h0 HE.out).mono ?_
 rintro e x0 ⟨rfl, fm⟩
 have g0 := fm.keep g0 (fun x => by cases x)
 have q0 := fm.keep q0 (fun x => by cases x)
 have F := F.trans0 fm
 have h0 := h0.fr fm
 clear fm
 go_wp2_with fail
 refine (may_no [116, 114, 117, 101] P g c ts st t HT.out HB1.out x0 h0 HE.out).mono ?_
 rintro e x1 ⟨rfl, fm⟩
 have g0 := fm.keep g0 (fun x => by cases x)
 have q0 := fm.keep q0 (fun x => by cases x)
 have F := F.trans0 fm
 have h0 := h0.fr fm
 clear fm
 go_wp2_with fail
 refine (may_no [102, 97, 108, 115, 101] P g c ts st t HT.out HB2.out x1 h0 HE.out).mono ?_
 rintro e x2 ⟨rfl, fm⟩
 have g0 := fm.keep g0 (fun x => by cases x)
 have q0 := fm.keep q0 (fun x => by cases x)
 have F := F.trans0 fm
 have h0 := h0.fr fm
 clear fm
 go_wp2_with fail
 refine (may_no [40] P g c ts st t HT.out HB3.out x2 h0 HE.out).mono ?_
 rintro e x3 ⟨rfl, fm⟩
 have g0 := fm.keep g0 (fun x => by cases x)
 have q0 := fm.keep q0 (fun x => by cases x)
 have F := F.trans0 fm
 have h0 := h0.fr fm
 clear fm
 go_wp2_with fail
 refine (may_yes [123] P g c ts st t HT.out HB4.out x3 h0 HE.out).mono ?_
 rintro e y1 ⟨rfl, h0, fm⟩
 have g0 := fm.keep g0 (by simp; omega)
 have q0 := fm.keep q0 (by simp; omega)
 have F := F.trans fm
 clear fm
 obtain ⟨⟨m0, m1, m2, m3, m4, m5, m6⟩, j0, j1, j2, j3, j4, j5, j6⟩ := cells7 q0
 have hTx := lt_of_heap q0
 have q1 : (y1.setCell ⟨T, 0, none⟩ (.int .i64 9)).heap[T]? = some (.cells #[.int .i64 9, .int .i64 a, .string ⟨#[]⟩, .int .i64 0, .string ⟨#[]⟩, .slice none 0 0, .slice none 0 0] 62 (0, 0)) := set_at q0 0 _
 have fs := (Fr.refl [T] y1).setCell (p := ⟨T, 0, none⟩) (.inl (by simp)) (.int .i64 9)
 have g0 := fs.keep g0 (by simp; omega)
 have h0 := h0.frL fs (by simp; omega) (by simp; omega)
 have F := F.step fs (fun x hx => .inr (by simp at hx; omega))
 have HQ := Lib.hid q1
 clear q0 q1 fs
 go_wp2_with fail
 clear m0 m1 m2 m3 m4 m5 m6 j0 j1 j2 j3 j4 j5 j6
 have q0 := HQ.out
 clear HQ
 generalize y1.setCell ⟨T, 0, none⟩ (.int .i64 9) = y1n at *
 refine (may_no [125] P g c ts ⟨st.i + 1, st.ok⟩ u_ HU.out HB.out y1n h0 HE.out).mono ?_
 rintro e x3n ⟨rfl, fm⟩
 have g0 := fm.keep g0 (fun x => by cases x)
 have q0 := fm.keep q0 (fun x => by cases x)
 have F := F.trans0 fm
 have h0 := h0.fr fm
 clear fm
 go_wp2_with fail
 obtain ⟨i0s, his, hz0s, hz1s, hz2s⟩ := info_parts infoStr
 have HIs := Lib.hid his
 have HZ0s := Lib.hid hz0s
 have HZ1s := Lib.hid hz1s
 have HZ2s := Lib.hid hz2s
 clear his hz0s hz1s hz2s
 obtain ⟨i0e, hie, hz0e, hz1e, hz2e⟩ := info_parts infoPat
 have HIe := Lib.hid hie
 have HZ0e := Lib.hid hz0e
 have HZ1e := Lib.hid hz1e
 have HZ2e := Lib.hid hz2e
 clear hie hz0e hz1e hz2e
 have HR0 : Hid (∀ x' st', Run ts (if true = true then LKp a [] [] else ENDp a [] []) ⟨st.i + 1, st.ok⟩ (.p x') st' → Run ts (bodyP (.marked (.mk 0 a [] 0 [] [] []))) st (.p x') st') := Lib.hid (fun x' st' h => by
  (first | rw [if_pos rfl] at h | rw [if_pos trivial] at h)
  unfold bodyP
  exact .may_no HT.out HB0.out (.els (.may_no HT.out HB1.out (.els (.may_no HT.out HB2.out (.els (.may_no HT.out HB3.out (.els (.may_yes HT.out HB4.out (.thn (.may_no HU.out HB.out (.els h))))))))))))
 go_loopw [5] (fun mv wr => ∃ (b : Bool) (ls : List (List UInt8)) (args : List PatT) (v5 v6 : Value) (c5 c6 : Nat → List Value) (st0 : St), mv = .bool b ∧ Fr [P] w wr ∧ wr.heap[B]? = some (.cells #[.int .i64 0, .int .i64 0, .string ⟨#[]⟩, .int .i64 0, .string ⟨#[]⟩, .slice none 0 0, .slice none 0 0] 62 (0, 0)) ∧ wr.heap[T]? = some (.cells #[.int .i64 9, .int .i64 a, .string ⟨#[]⟩, .int .i64 0, .string ⟨#[]⟩, v5, v6] 62 (0, 0)) ∧ RowS wr (fun b => (B < b ∧ ¬ b = T ∧ ¬ b = P) ∧ (v6).ownBlock ≠ some b) v5 ls c5 ∧ RowP wr (fun b => (B < b ∧ ¬ b = T ∧ ¬ b = P) ∧ (v5).ownBlock ≠ some b) v6 args c6 ∧ PSt P g c ts st0 wr ∧ st.i + 1 ≤ st0.i ∧ ls.length ≤ st0.i + (if b = true then 0 else 1) ∧ args.length = ls.length ∧ Hid (∀ x' st', Run ts (if b = true then LKp a ls args else ENDp a ls args) st0 (.p x') st' → Run ts (bodyP (.marked (.mk 0 a [] 0 [] [] []))) st (.p x') st')) (fun mv wr => 2 * (ts.length - plI wr P) + (match mv with | .bool true => 1 | _ => 0))
 case atStart => exact ⟨true, [], [], .slice none 0 0, .slice none 0 0, fun _ => [], fun _ => [], _, rfl, F, g0, q0, RowG.nil_, RowG.nil_, h0, by simp, by simp, rfl, HR0⟩
 case round =>
  obtain ⟨b, ls, args, v5, v6, c5, c6, st0, rfl, F, g0, q0, rowS, rowE, h0, hle0, hacc, hal, HR⟩ := hrel
  clear HR0
  cases b with
  | false =>
   go_wp2_with fail
   have hform5 : ∃ A n0 cc, v5 = .slice A n0 cc := by
    rcases rowS.own.2 with ⟨hv, _⟩ | ⟨g', cap, cur, hv, _⟩
    ·exact ⟨_, _, _, hv⟩
    ·exact ⟨_, _, _, hv⟩
   obtain ⟨A5, n5, cc5, rfl⟩ := hform5
   have hform6 : ∃ A n0 cc, v6 = .slice A n0 cc := by
    rcases rowE.own.2 with ⟨hv, _⟩ | ⟨g', cap, cur, hv, _⟩
    ·exact ⟨_, _, _, hv⟩
    ·exact ⟨_, _, _, hv⟩
   obtain ⟨A6, n6, cc6, rfl⟩ := hform6
   obtain ⟨u, hu⟩ := tok_at h0.inb
   refine (must_any [125] P g c ts st0 u hu wr h0 HE.out).mono ?_
   rintro e y1 ⟨rfl, h0, fm⟩
   have g0 := fm.keep g0 (by simp; omega)
   have q0 := fm.keep q0 (by simp; omega)
   have F := F.trans fm
   have rowE := RowG.keep (ok' := fun b => B < b) keepsP rowE (Sh.of_fr fm (fun b hb hlt => ⟨hb.1.1, by simp; exact hb.1.2.2⟩))
   have rowS := RowG.keep (ok' := fun b => B < b) keepsS rowS (Sh.of_fr fm (fun b hb hlt => ⟨hb.1.1, by simp; exact hb.1.2.2⟩))
   have hBlt := lt_of_heap g0
   have hTlt := lt_of_heap q0
   obtain ⟨⟨l0, l1, l2, l3, l4, l5, l6⟩, _⟩ := cells7 q0
   obtain ⟨⟨u0_, u1, u2, u3, u4, u5, u6⟩, z0, z1, z2, z3, z4, z5, z6⟩ := cells7 g0
   clear fm
   have HG := Lib.hid (st7_heap g0 (.int .i64 9) (.int .i64 a) (.string ⟨#[]⟩) (.int .i64 0) (.string ⟨#[]⟩) (.slice A5 n5 cc5) (.slice A6 n6 cc6))
   have HF := Lib.hid (F.step (st7_fr y1 B (.int .i64 9) (.int .i64 a) (.string ⟨#[]⟩) (.int .i64 0) (.string ⟨#[]⟩) (.slice A5 n5 cc5) (.slice A6 n6 cc6)) (fun x hx => .inr (by simp at hx; omega)))
   have HP := Lib.hid (h0.frL (st7_fr y1 B (.int .i64 9) (.int .i64 a) (.string ⟨#[]⟩) (.int .i64 0) (.string ⟨#[]⟩) (.slice A5 n5 cc5) (.slice A6 n6 cc6)) (by simp; omega) (by simp; omega))
   have HRW0 := Lib.hid (RowG.keep (ok' := fun b => B ≤ b) keepsP rowE (Sh.of_fr (st7_fr y1 B (.int .i64 9) (.int .i64 a) (.string ⟨#[]⟩) (.int .i64 0) (.string ⟨#[]⟩) (.slice A5 n5 cc5) (.slice A6 n6 cc6)) (fun b hb hlt => ⟨by omega, by simp; omega⟩)))
   have HRW1 := Lib.hid (RowG.keep (ok' := fun b => B ≤ b) keepsS rowS (Sh.of_fr (st7_fr y1 B (.int .i64 9) (.int .i64 a) (.string ⟨#[]⟩) (.int .i64 0) (.string ⟨#[]⟩) (.slice A5 n5 cc5) (.slice A6 n6 cc6)) (fun b hb hlt => ⟨by omega, by simp; omega⟩)))
   unfold st7 at HG HF HP HRW0 HRW1
   go_wp2_with fail
   generalize ((((((y1.setCell ⟨B, 0, none⟩ (.int .i64 9)).setCell ⟨B, 1, none⟩ (.int .i64 a)).setCell ⟨B, 2, none⟩ (.string ⟨#[]⟩)).setCell ⟨B, 3, none⟩ (.int .i64 0)).setCell ⟨B, 4, none⟩ (.string ⟨#[]⟩)).setCell ⟨B, 5, none⟩ (.slice A5 n5 cc5)).setCell ⟨B, 6, none⟩ (.slice A6 n6 cc6) = Z at HG HF HP HRW0 HRW1 ⊢
   obtain ⟨⟨d0, d1, d2, d3, d4, d5, d6⟩, _⟩ := cells7 HG.out
   have hxx := PatAt.of_rows (w := Z) (ok := fun b => B ≤ b) (k := 9) (a := a) (nm := []) (n := 0) (s := []) HRW1.out HRW0.out
   refine bodyPost_ret (v := .agg #[.int .i64 9, .int .i64 a, .string ⟨#[]⟩, .int .i64 0, .string ⟨#[]⟩, .slice A5 n5 cc5, .slice A6 n6 cc6]) ?_ rfl ?_
   ·simp [results, Tryz.f131, go_sem, d0, d1, d2, d3, d4, d5, d6]
   ·exact ⟨_, _, _, _, _, _, _, _, _, _, _, _, _, _, rfl, hxx.keep (Sh.of_fr (Fr.refl [] Z) (fun b hb hlt => ⟨by omega, fun x => by cases x⟩)), HR.out _ _ (by (first | rw [if_neg (by decide)] | rw [if_neg id]); exact .must_ hu .retP), HP.out, HF.out⟩
  | true =>
   obtain ⟨p0, p1, p2, _⟩ := cells3 h0.blk
   have hPw := lt_of_heap h0.blk
   cases hok : st0.ok with
   | false =>
    rw [hok] at p2
    have HOK := Lib.hid hok
    clear hok
    go_wp2_with fail
    clear p0 p1 p2
    have hform5 : ∃ A n0 cc, v5 = .slice A n0 cc := by
     rcases rowS.own.2 with ⟨hv, _⟩ | ⟨g', cap, cur, hv, _⟩
     ·exact ⟨_, _, _, hv⟩
     ·exact ⟨_, _, _, hv⟩
    obtain ⟨A5, n5, cc5, rfl⟩ := hform5
    have hform6 : ∃ A n0 cc, v6 = .slice A n0 cc := by
     rcases rowE.own.2 with ⟨hv, _⟩ | ⟨g', cap, cur, hv, _⟩
     ·exact ⟨_, _, _, hv⟩
     ·exact ⟨_, _, _, hv⟩
    obtain ⟨A6, n6, cc6, rfl⟩ := hform6
    obtain ⟨u, hu⟩ := tok_at h0.inb
    refine (must_any [125] P g c ts st0 u hu wr h0 HE.out).mono ?_
    rintro e y1 ⟨rfl, h0, fm⟩
    have g0 := fm.keep g0 (by simp; omega)
    have q0 := fm.keep q0 (by simp; omega)
    have F := F.trans fm
    have rowE := RowG.keep (ok' := fun b => B < b) keepsP rowE (Sh.of_fr fm (fun b hb hlt => ⟨hb.1.1, by simp; exact hb.1.2.2⟩))
    have rowS := RowG.keep (ok' := fun b => B < b) keepsS rowS (Sh.of_fr fm (fun b hb hlt => ⟨hb.1.1, by simp; exact hb.1.2.2⟩))
    have hBlt := lt_of_heap g0
    have hTlt := lt_of_heap q0
    obtain ⟨⟨l0, l1, l2, l3, l4, l5, l6⟩, _⟩ := cells7 q0
    obtain ⟨⟨u0_, u1, u2, u3, u4, u5, u6⟩, z0, z1, z2, z3, z4, z5, z6⟩ := cells7 g0
    clear fm
    have HG := Lib.hid (st7_heap g0 (.int .i64 9) (.int .i64 a) (.string ⟨#[]⟩) (.int .i64 0) (.string ⟨#[]⟩) (.slice A5 n5 cc5) (.slice A6 n6 cc6))
    have HF := Lib.hid (F.step (st7_fr y1 B (.int .i64 9) (.int .i64 a) (.string ⟨#[]⟩) (.int .i64 0) (.string ⟨#[]⟩) (.slice A5 n5 cc5) (.slice A6 n6 cc6)) (fun x hx => .inr (by simp at hx; omega)))
    have HP := Lib.hid (h0.frL (st7_fr y1 B (.int .i64 9) (.int .i64 a) (.string ⟨#[]⟩) (.int .i64 0) (.string ⟨#[]⟩) (.slice A5 n5 cc5) (.slice A6 n6 cc6)) (by simp; omega) (by simp; omega))
    have HRW0 := Lib.hid (RowG.keep (ok' := fun b => B ≤ b) keepsP rowE (Sh.of_fr (st7_fr y1 B (.int .i64 9) (.int .i64 a) (.string ⟨#[]⟩) (.int .i64 0) (.string ⟨#[]⟩) (.slice A5 n5 cc5) (.slice A6 n6 cc6)) (fun b hb hlt => ⟨by omega, by simp; omega⟩)))
    have HRW1 := Lib.hid (RowG.keep (ok' := fun b => B ≤ b) keepsS rowS (Sh.of_fr (st7_fr y1 B (.int .i64 9) (.int .i64 a) (.string ⟨#[]⟩) (.int .i64 0) (.string ⟨#[]⟩) (.slice A5 n5 cc5) (.slice A6 n6 cc6)) (fun b hb hlt => ⟨by omega, by simp; omega⟩)))
    unfold st7 at HG HF HP HRW0 HRW1
    go_wp2_with fail
    generalize ((((((y1.setCell ⟨B, 0, none⟩ (.int .i64 9)).setCell ⟨B, 1, none⟩ (.int .i64 a)).setCell ⟨B, 2, none⟩ (.string ⟨#[]⟩)).setCell ⟨B, 3, none⟩ (.int .i64 0)).setCell ⟨B, 4, none⟩ (.string ⟨#[]⟩)).setCell ⟨B, 5, none⟩ (.slice A5 n5 cc5)).setCell ⟨B, 6, none⟩ (.slice A6 n6 cc6) = Z at HG HF HP HRW0 HRW1 ⊢
    obtain ⟨⟨d0, d1, d2, d3, d4, d5, d6⟩, _⟩ := cells7 HG.out
    have hxx := PatAt.of_rows (w := Z) (ok := fun b => B ≤ b) (k := 9) (a := a) (nm := []) (n := 0) (s := []) HRW1.out HRW0.out
    refine bodyPost_ret (v := .agg #[.int .i64 9, .int .i64 a, .string ⟨#[]⟩, .int .i64 0, .string ⟨#[]⟩, .slice A5 n5 cc5, .slice A6 n6 cc6]) ?_ rfl ?_
    ·simp [results, Tryz.f131, go_sem, d0, d1, d2, d3, d4, d5, d6]
    ·exact ⟨_, _, _, _, _, _, _, _, _, _, _, _, _, _, rfl, hxx.keep (Sh.of_fr (Fr.refl [] Z) (fun b hb hlt => ⟨by omega, fun x => by cases x⟩)), HR.out _ _ (by (first | rw [if_pos rfl] | rw [if_pos trivial]); exact LKp_no hu HOK.out (.must_ hu .retP)), HP.out, HF.out⟩
   | true =>
    rw [hok] at p2
    have HOK := Lib.hid hok
    clear hok
    have HR1 := HR
    clear HR
    obtain ⟨u, hu⟩ := tok_at h0.inb
    have HPL := Lib.hid h0.pl
    have HLE0 := Lib.hid hle0
    have HAL := Lib.hid hal
    have HACC := Lib.hid hacc
    have HLEN : Hid (ls.length ≤ 4097) := Lib.hid (by have h1 := hacc; simp at h1; have h2 := HE.out.1; have h3 := h0.inb; omega)
    clear hacc hle0 hal
    have X6 : ∀ gg, v6.ownBlock = some gg → gg < wr.heap.size := fun gg hg => rowE.own_lt gg hg
    clear p0 p1
    obtain ⟨⟨l0, l1, l2, l3, l4, l5, l6⟩, _⟩ := cells7 q0
    have hTwr := lt_of_heap q0
    have ROWH := Lib.hid rowS
    clear rowS
    go_wp2_with fail
    clear p2
    refine wp_region_last8 (fun w' => w'.cell? ⟨T, 5, none⟩ = some (v5)) (by kernel_rfl) (by kernel_rfl) ?hS1000 (fun K hK hHeld => ?hr1000)
    case hS1000 => go_keep
    refine held_take (i := 0) (v := ?v1001) rfl (by kernel_rfl) (by kernel_rfl) (by kernel_rfl) (fun _ _ _ h => h) (Or.inl ⟨by rfl, ?hy1001⟩) (by assumption) ?hr1001
    case hy1001 =>
     intro w' hSw
     (try dsimp only at hSw)
     go_simp
     (try with_reducible rfl)
    (try simp only [Act.put, List.setIfInBounds_toArray, List.set_cons_zero, List.set_cons_succ])
    refine held_take (i := 1) (v := ?v1002) rfl (by kernel_rfl) (by kernel_rfl) (by kernel_rfl) (fun _ _ _ h => h) (Or.inl ⟨by rfl, ?hy1002⟩) (by assumption) ?hr1002
    case hy1002 =>
     intro w' hSw
     (try dsimp only at hSw)
     go_simp
     (try with_reducible rfl)
    (try simp only [Act.put, List.setIfInBounds_toArray, List.set_cons_zero, List.set_cons_succ])
    refine held_take (i := 2) (v := ?v1003) rfl (by kernel_rfl) (by kernel_rfl) (by kernel_rfl) (fun _ _ _ h => h) (Or.inl ⟨by rfl, ?hy1003⟩) (by assumption) ?hr1003
    case hy1003 =>
     intro w' hSw
     (try dsimp only at hSw)
     go_simp
     (try with_reducible rfl)
    (try simp only [Act.put, List.setIfInBounds_toArray, List.set_cons_zero, List.set_cons_succ])
    refine held_step (i := 3) rfl (by kernel_rfl) (fun K3 hK3 => ?hr1004)
    go_simp
    refine (name_any P g c ts st0 u hu _ (h0.fr (Fr.refl [] wr).drew) HE.out).mono ?_
    rintro e x8 ⟨rfl, hst, f8⟩
    have hxn : StrE x8 (fun b => wr.heap.size ≤ b) (nameT u st0) [.string ⟨(nameT u st0).toArray⟩] := rfl
    have Q8 := f8.keep (w := wr.drew) q0 (by simp; omega)
    have hT8 := lt_of_heap Q8
    have ROW9 := RowG.keep (w' := x8.alloc (.cells #[.string ⟨(nameT u st0).toArray⟩] 9)) (ok' := fun b => (B < b ∧ ¬ b = T ∧ ¬ b = P) ∧ (v6).ownBlock ≠ some b) keepsS ROWH.out (Sh.of_fr (((Fr.refl [P] wr).drew.trans f8).alloc _) (fun b hb hlt => ⟨hb, by simp; exact hb.1.2.2⟩))
    go_simp
    refine hK3.out _ _ ?hS1004 (fun hHeld => ?hq1004)
    case hS1004 => exact (cells7 Q8).1.2.2.2.2.2.1
    clear hK3 K3
    (try simp only [Act.put, List.setIfInBounds_toArray, List.set_cons_zero, List.set_cons_succ])
    refine held_step (i := 4) rfl (by kernel_rfl) (fun K4 hK4 => ?hr1005)
    go_simp
    refine hK4.out _ _ ?hS1005 (fun hHeld => ?hq1005)
    case hS1005 => exact cell_of (heap_old Q8 _) 5
    clear hK4 K4
    (try simp only [Act.put, List.setIfInBounds_toArray, List.set_cons_zero, List.set_cons_succ])
    refine held_step (i := 5) rfl (by kernel_rfl) (fun K5 hK5 => ?hr1006)
    refine step_append_fp (by rfl) _ _ 23 (by rfl) 9 i0s _ 1 16 Tryz.underlying23 HIs.out HZ0s.out HZ1s.out HZ2s.out rfl (by decide) (v5) (ls.length) (flatN c5 (ls.length)) (by rfl) ROW9.own ⟨x8.heap.size, 0, none⟩ 1 1 [.string ⟨(nameT u st0).toArray⟩] (by rfl) rfl (World.news_of_block (heap_new x8 _)) (by simp [Value.oneCell']) (by simp only [maxLen]; have := HLEN.out; have := HAL.out; omega) (by have := HLEN.out; have := HAL.out; omega) ?_
    intro v9 w9 hown9 hgrow9 hfp9
    obtain ⟨g9, cp9, hv9⟩ : ∃ g cap, v9 = .slice (some ⟨g, 0, none⟩) (ls.length + 1) cap := own_form hown9
    subst hv9
    have Q9 := (hgrow9.block T (lt_of_heap (heap_old Q8 (.cells #[.string ⟨(nameT u st0).toArray⟩] 9))) (fun e => (ROWH.out.blk T e.symm).1.2.1 rfl)).trans (heap_old Q8 (.cells #[.string ⟨(nameT u st0).toArray⟩] 9))
    have hT9 := lt_of_heap Q9
    obtain ⟨⟨u0, u1, u2, u3, u4, u5, u6⟩, z0, z1, z2, z3, z4, z5, z6⟩ := cells7 Q9
    refine hK5.out _ _ ?hS1006 (fun hHeld => ?hq1006)
    case hS1006 => exact u5
    clear hK5 K5
    (try simp only [Act.put, List.setIfInBounds_toArray, List.set_cons_zero, List.set_cons_succ])
    refine held_take (i := 6) (v := ?v1007) rfl (by kernel_rfl) (by kernel_rfl) (by kernel_rfl) (fun _ _ _ h => h) (Or.inl ⟨by rfl, ?hy1007⟩) (by assumption) ?hr1007
    case hy1007 =>
     intro w' hSw
     (try dsimp only at hSw)
     go_simp
     (try with_reducible rfl)
    (try simp only [Act.put, List.setIfInBounds_toArray, List.set_cons_zero, List.set_cons_succ])
    refine wpAnyH_done (by kernel_rfl) ?hr1008 _
    refine thenLast_run rfl ?hq1008
    go_simp
    refine hK.out _ _ ?hs1008
    clear hK K
    clear l0 l1 l2 l3 l4 l5 l6 u0 u1 u2 u3 u4 u5 u6 z0 z1 z2 z3 z4 z5 z6
    have f8 : Fr [P] wr x8 := ((Fr.refl [P] wr).drew).trans f8
    have rowS := ROWH.out
    obtain ⟨F, g0, q0, h0, rowS, hsh, hnew, hsz⟩ := app_after_g (fld := 5) (size := 1) keepsS f8 hxn rfl hst g0 q0 rowS (fun b hb => ⟨hb.1.2.1, hb.1.2.2, by have := hb.1.1; omega, by have := hb.1.1; omega⟩) (fun b hb => ⟨⟨by have := lt_of_heap g0; omega, by have := lt_of_heap q0; omega, by have := lt_of_heap g0; omega⟩, fun e => by have := X6 b e; omega⟩) (fun b hb => by have := hb.1.1; omega) F (by omega) (by omega) (by omega) (by omega) (by omega) (by omega) (by omega) hown9 hgrow9 hfp9 (VV' := #[.int .i64 9, .int .i64 a, .string ⟨#[]⟩, .int .i64 0, .string ⟨#[]⟩, .slice (some ⟨g9, 0, none⟩) (ls.length + 1) cp9, v6]) rfl
    have rowE := RowG.keep (ok' := fun b => (B < b ∧ ¬ b = T ∧ ¬ b = P) ∧ (Value.slice (some ⟨g9, 0, none⟩) (ls.length + 1) cp9).ownBlock ≠ some b) keepsP rowE (fun b hb hlt => ⟨⟨hb.1, fun e => (hnew b e).elim hb.2 (fun h => by omega)⟩, hsh b hlt hb.1.2.1 hb.1.2.2 hb.2⟩)
    clear hsh hnew
    clear ROWH ROW9 Q8 Q9 hown9 hgrow9 hfp9 f8 hst hT8 hT9 hTwr
    generalize w9.setCell ⟨T, 5, none⟩ (.slice (some ⟨g9, 0, none⟩) (ls.length + 1) cp9) = w1_ at *
    clear X6 hsz
    go_wp2_with fail
    obtain ⟨u1, hu1⟩ := tok_at h0.inb
    refine (must_any [61] P g c ts (nameS u st0) u1 hu1 w1_ h0 HE.out).mono ?_
    rintro e w2_ ⟨rfl, h0, fm⟩
    have g0 := fm.keep g0 (by simp; omega)
    have q0 := fm.keep q0 (by simp; omega)
    have F := F.trans fm
    have rowE := RowG.keep (ok' := fun b => (B < b ∧ ¬ b = T ∧ ¬ b = P) ∧ (Value.slice (some ⟨g9, 0, none⟩) (ls.length + 1) cp9).ownBlock ≠ some b) keepsP rowE (Sh.of_fr fm (fun b hb hlt => ⟨hb, by simp; exact hb.1.2.2⟩))
    have rowS := RowG.keep (ok' := fun b => (B < b ∧ ¬ b = T ∧ ¬ b = P) ∧ (v6).ownBlock ≠ some b) keepsS rowS (Sh.of_fr fm (fun b hb hlt => ⟨hb, by simp; exact hb.1.2.2⟩))
    clear fm
    have hle3 := nameS_le2 u st0
    have hle4 := mustS_le u1 (nameS u st0) [61]
    have cS := fun W hW => Lib.hid (IHP.out P g c (mustS u1 (nameS u st0) [61]) W hW (by have := HN.out; have := h0.inb; have := HLE0.out; omega))
    have X5 : ∀ gg, (Value.slice (some ⟨g9, 0, none⟩) (ls.length + 1) cp9).ownBlock = some gg → gg < w2_.heap.size := fun gg hg => rowS.own_lt gg hg
    obtain ⟨⟨l0, l1, l2, l3, l4, l5, l6⟩, _⟩ := cells7 q0
    have hTwr := lt_of_heap q0
    have ROWH := Lib.hid rowE
    clear rowE
    go_wp2_with fail
    refine wp_region_last8 (fun w' => w'.cell? ⟨T, 6, none⟩ = some (v6)) (by kernel_rfl) (by kernel_rfl) ?hS1009 (fun K hK hHeld => ?hr1009)
    case hS1009 => go_keep
    refine held_take (i := 0) (v := ?v1010) rfl (by kernel_rfl) (by kernel_rfl) (by kernel_rfl) (fun _ _ _ h => h) (Or.inl ⟨by rfl, ?hy1010⟩) (by assumption) ?hr1010
    case hy1010 =>
     intro w' hSw
     (try dsimp only at hSw)
     go_simp
     (try with_reducible rfl)
    (try simp only [Act.put, List.setIfInBounds_toArray, List.set_cons_zero, List.set_cons_succ])
    refine held_take (i := 1) (v := ?v1011) rfl (by kernel_rfl) (by kernel_rfl) (by kernel_rfl) (fun _ _ _ h => h) (Or.inl ⟨by rfl, ?hy1011⟩) (by assumption) ?hr1011
    case hy1011 =>
     intro w' hSw
     (try dsimp only at hSw)
     go_simp
     (try with_reducible rfl)
    (try simp only [Act.put, List.setIfInBounds_toArray, List.set_cons_zero, List.set_cons_succ])
    refine held_take (i := 2) (v := ?v1012) rfl (by kernel_rfl) (by kernel_rfl) (by kernel_rfl) (fun _ _ _ h => h) (Or.inl ⟨by rfl, ?hy1012⟩) (by assumption) ?hr1012
    case hy1012 =>
     intro w' hSw
     (try dsimp only at hSw)
     go_simp
     (try with_reducible rfl)
    (try simp only [Act.put, List.setIfInBounds_toArray, List.set_cons_zero, List.set_cons_succ])
    refine held_step (i := 3) rfl (by kernel_rfl) (fun K3 hK3 => ?hr1013)
    go_simp
    refine (cS _ (h0.fr (Fr.refl [] w2_).drew)).out.mono ?_
    rintro e x8 ⟨k3, a3, nm3, n3, s3, ls3, args3, A53, n53, c53, A63, n63, c63, st4, rfl, hx3, hr3, hst4, f8⟩
    have hst := hst4
    have Q8 := f8.keep (w := w2_.drew) q0 (by simp; omega)
    have hT8 := lt_of_heap Q8
    have ROW9 := RowG.keep (w' := x8.alloc (.cells #[.int .i64 k3, .int .i64 a3, .string ⟨nm3.toArray⟩, .int .i64 n3, .string ⟨s3.toArray⟩, .slice A53 n53 c53, .slice A63 n63 c63] 62)) (ok' := fun b => (B < b ∧ ¬ b = T ∧ ¬ b = P) ∧ (Value.slice (some ⟨g9, 0, none⟩) (ls.length + 1) cp9).ownBlock ≠ some b) keepsP ROWH.out (Sh.of_fr (((Fr.refl [P] w2_).drew.trans f8).alloc _) (fun b hb hlt => ⟨hb, by simp; exact hb.1.2.2⟩))
    go_simp
    refine hK3.out _ _ ?hS1013 (fun hHeld => ?hq1013)
    case hS1013 => exact (cells7 Q8).1.2.2.2.2.2.2
    clear hK3 K3
    (try simp only [Act.put, List.setIfInBounds_toArray, List.set_cons_zero, List.set_cons_succ])
    refine held_step (i := 4) rfl (by kernel_rfl) (fun K4 hK4 => ?hr1014)
    go_simp
    refine hK4.out _ _ ?hS1014 (fun hHeld => ?hq1014)
    case hS1014 => exact cell_of (heap_old Q8 _) 6
    clear hK4 K4
    (try simp only [Act.put, List.setIfInBounds_toArray, List.set_cons_zero, List.set_cons_succ])
    refine held_step (i := 5) rfl (by kernel_rfl) (fun K5 hK5 => ?hr1015)
    refine step_append_fp (by rfl) _ _ 60 (by rfl) 62 i0e _ 7 104 Tryz.underlying60 HIe.out HZ0e.out HZ1e.out HZ2e.out rfl (by decide) (v6) (args.length) (flatN c6 (args.length)) (by rfl) ROW9.own ⟨x8.heap.size, 0, none⟩ 1 1 [.int .i64 k3, .int .i64 a3, .string ⟨nm3.toArray⟩, .int .i64 n3, .string ⟨s3.toArray⟩, .slice A53 n53 c53, .slice A63 n63 c63] (by rfl) rfl (World.news_of_block (heap_new x8 _)) (by simp [Value.oneCell']) (by simp only [maxLen]; have := HLEN.out; have := HAL.out; omega) (by have := HLEN.out; have := HAL.out; omega) ?_
    intro v9 w9 hown9 hgrow9 hfp9
    obtain ⟨g8, cp8, hv9⟩ : ∃ g cap, v9 = .slice (some ⟨g, 0, none⟩) (args.length + 1) cap := own_form hown9
    subst hv9
    have Q9 := (hgrow9.block T (lt_of_heap (heap_old Q8 (.cells #[.int .i64 k3, .int .i64 a3, .string ⟨nm3.toArray⟩, .int .i64 n3, .string ⟨s3.toArray⟩, .slice A53 n53 c53, .slice A63 n63 c63] 62))) (fun e => (ROWH.out.blk T e.symm).1.2.1 rfl)).trans (heap_old Q8 (.cells #[.int .i64 k3, .int .i64 a3, .string ⟨nm3.toArray⟩, .int .i64 n3, .string ⟨s3.toArray⟩, .slice A53 n53 c53, .slice A63 n63 c63] 62))
    have hT9 := lt_of_heap Q9
    obtain ⟨⟨u0, u1, u2, u3, u4, u5, u6⟩, z0, z1, z2, z3, z4, z5, z6⟩ := cells7 Q9
    refine hK5.out _ _ ?hS1015 (fun hHeld => ?hq1015)
    case hS1015 => exact u6
    clear hK5 K5
    (try simp only [Act.put, List.setIfInBounds_toArray, List.set_cons_zero, List.set_cons_succ])
    refine held_take (i := 6) (v := ?v1016) rfl (by kernel_rfl) (by kernel_rfl) (by kernel_rfl) (fun _ _ _ h => h) (Or.inl ⟨by rfl, ?hy1016⟩) (by assumption) ?hr1016
    case hy1016 =>
     intro w' hSw
     (try dsimp only at hSw)
     go_simp
     (try with_reducible rfl)
    (try simp only [Act.put, List.setIfInBounds_toArray, List.set_cons_zero, List.set_cons_succ])
    refine wpAnyH_done (by kernel_rfl) ?hr1017 _
    refine thenLast_run rfl ?hq1017
    go_simp
    refine hK.out _ _ ?hs1017
    clear hK K
    clear l0 l1 l2 l3 l4 l5 l6 u0 u1 u2 u3 u4 u5 u6 z0 z1 z2 z3 z4 z5 z6
    have f8 : Fr [P] w2_ x8 := ((Fr.refl [P] w2_).drew).trans f8
    have rowE := ROWH.out
    obtain ⟨F, g0, q0, h0, rowE, hsh, hnew, hsz⟩ := app_after_g (fld := 6) (size := 7) keepsP f8 hx3 rfl hst g0 q0 rowE (fun b hb => ⟨hb.1.2.1, hb.1.2.2, by have := hb.1.1; omega, by have := hb.1.1; omega⟩) (fun b hb => ⟨⟨by have := lt_of_heap g0; omega, by have := lt_of_heap q0; omega, by have := lt_of_heap g0; omega⟩, fun e => by have := X5 b e; omega⟩) (fun b hb => by have := hb.1.1; omega) F (by omega) (by omega) (by omega) (by omega) (by omega) (by omega) (by omega) hown9 hgrow9 hfp9 (VV' := #[.int .i64 9, .int .i64 a, .string ⟨#[]⟩, .int .i64 0, .string ⟨#[]⟩, .slice (some ⟨g9, 0, none⟩) (ls.length + 1) cp9, .slice (some ⟨g8, 0, none⟩) (args.length + 1) cp8]) rfl
    have rowS := RowG.keep (ok' := fun b => (B < b ∧ ¬ b = T ∧ ¬ b = P) ∧ (Value.slice (some ⟨g8, 0, none⟩) (args.length + 1) cp8).ownBlock ≠ some b) keepsS rowS (fun b hb hlt => ⟨⟨hb.1, fun e => (hnew b e).elim hb.2 (fun h => by omega)⟩, hsh b hlt hb.1.2.1 hb.1.2.2 hb.2⟩)
    clear hsh hnew
    clear ROWH ROW9 Q8 Q9 hown9 hgrow9 hfp9 f8 hst hT8 hT9 hTwr
    generalize w9.setCell ⟨T, 6, none⟩ (.slice (some ⟨g8, 0, none⟩) (args.length + 1) cp8) = w3_ at *
    clear X5 hsz cS
    go_wp2_with fail
    obtain ⟨v, hv⟩ := tok_at h0.inb
    have hle5 := hr3.le
    have hpl0 := HPL.out
    cases hb : isB v st4.ok [[44]] with
    | true =>
     refine (may_yes [44] P g c ts st4 v hv hb w3_ h0 HE.out).mono ?_
     rintro e y10 ⟨rfl, h0, fm⟩
     have g0 := fm.keep g0 (by simp; omega)
     have q0 := fm.keep q0 (by simp; omega)
     have F := F.trans fm
     have rowE := RowG.keep (ok' := fun b => (B < b ∧ ¬ b = T ∧ ¬ b = P) ∧ (Value.slice (some ⟨g9, 0, none⟩) (ls.length + 1) cp9).ownBlock ≠ some b) keepsP rowE (Sh.of_fr fm (fun b hb hlt => ⟨hb, by simp; exact hb.1.2.2⟩))
     have rowS := RowG.keep (ok' := fun b => (B < b ∧ ¬ b = T ∧ ¬ b = P) ∧ (Value.slice (some ⟨g8, 0, none⟩) (args.length + 1) cp8).ownBlock ≠ some b) keepsS rowS (Sh.of_fr fm (fun b hb hlt => ⟨hb, by simp; exact hb.1.2.2⟩))
     clear fm
     go_wp2_with fail
     go_roundw
     case rel => exact ⟨true, ls ++ [nameT u st0], args ++ [(.mk k3 a3 nm3 n3 s3 ls3 args3)], _, _, _, _, _, rfl, F, g0, q0, rowS, rowE, h0, (by have := HLE0.out; (try simp only at *); omega), (by have := HACC.out; simp at this ⊢; omega), (by have := HAL.out; simp; omega), Lib.hid (fun x' st' h => HR1.out _ _ (by
      have hh := recP_round hu HOK.out hu1 hr3 hv hb (z := x') (st' := st') (by rw [if_pos rfl, if_pos rfl]; (first | (rw [if_pos rfl] at h; exact h) | (rw [if_pos trivial] at h; exact h)))
      (first | (rw [if_pos rfl]; exact hh) | (rw [if_pos trivial]; exact hh))))⟩
     case measure =>
      have hin1 := h0.inb
      have hpl1 := h0.pl
      rw [hpl1, hpl0]
      (try simp only at *)
      omega
    | false =>
     refine (may_no [44] P g c ts st4 v hv hb w3_ h0 HE.out).mono ?_
     rintro e y10 ⟨rfl, fm⟩
     have g0 := fm.keep g0 (fun x => by cases x)
     have q0 := fm.keep q0 (fun x => by cases x)
     have F := F.trans0 fm
     have h0 := h0.fr fm
     have rowE := RowG.keep (ok' := fun b => (B < b ∧ ¬ b = T ∧ ¬ b = P) ∧ (Value.slice (some ⟨g9, 0, none⟩) (ls.length + 1) cp9).ownBlock ≠ some b) keepsP rowE (Sh.of_fr fm (fun b hb hlt => ⟨hb, fun x => by cases x⟩))
     have rowS := RowG.keep (ok' := fun b => (B < b ∧ ¬ b = T ∧ ¬ b = P) ∧ (Value.slice (some ⟨g8, 0, none⟩) (args.length + 1) cp8).ownBlock ≠ some b) keepsS rowS (Sh.of_fr fm (fun b hb hlt => ⟨hb, fun x => by cases x⟩))
     clear fm
     go_wp2_with fail
     go_roundw
     case rel => exact ⟨false, ls ++ [nameT u st0], args ++ [(.mk k3 a3 nm3 n3 s3 ls3 args3)], _, _, _, _, _, rfl, F, g0, q0, rowS, rowE, h0, (by have := HLE0.out; (try simp only at *); omega), (by have := HACC.out; simp at this ⊢; omega), (by have := HAL.out; simp; omega), Lib.hid (fun x' st' h => HR1.out _ _ (by
      have hh := recP_round hu HOK.out hu1 hr3 hv hb (z := x') (st' := st') (by rw [if_neg (by decide), if_neg (by decide)]; (first | (rw [if_neg (by decide)] at h; exact h) | (rw [if_neg id] at h; exact h)))
      (first | (rw [if_pos rfl]; exact hh) | (rw [if_pos trivial]; exact hh))))⟩
     case measure =>
      have hin1 := h0.inb
      have hpl1 := h0.pl
      rw [hpl1, hpl0]
      (try simp only at *)
      omega
end Go.Proofs.YtpjkfeehgookkaaGreatDoor
namespace Go.Proofs.YtpjkfeehgookkaaGreatDoor
open Go.RowKit
theorem marked_step (ts : List Tok) (hE : EndOk ts) (N : Nat) (ihP : GP ts N 2 .pat 84) : GM ts (N + 1) := by
 intro P g c st a w h hm
 obtain ⟨t, ht⟩ := tok_at h.inb
 have nxt : ∀ {l : List (List UInt8)}, isB t st.ok l = true → ∃ u, ts[st.i + 1]? = some u := fun hb => tok_at ((hE.2 _ _ ht).1.1 (isB_ok hb).2)
 cases h0 : isB t st.ok [[45]] with
 | true =>
  obtain ⟨u, hu⟩ := nxt h0
  by_cases hk : u.k = 4
  ·exact marked_minus ts hE N ihP P g c st a w h hm t ht h0 u hu hk
  ·exact marked_minus_no ts hE N ihP P g c st a w h hm t ht h0 u hu hk
 | false =>
  cases h1 : isB t st.ok [[116, 114, 117, 101]] with
  | true => exact marked_true ts hE N ihP P g c st a w h hm t ht h0 h1
  | false =>
   cases h2 : isB t st.ok [[102, 97, 108, 115, 101]] with
   | true => exact marked_false ts hE N ihP P g c st a w h hm t ht h0 h1 h2
   | false =>
    cases h3 : isB t st.ok [[40]] with
    | true => exact marked_paren ts hE N ihP P g c st a w h hm t ht h0 h1 h2 h3
    | false =>
     cases h4 : isB t st.ok [[123]] with
     | true =>
      obtain ⟨u, hu⟩ := nxt h4
      cases hb : isB u st.ok [[125]] with
      | true => exact marked_empty ts hE N ihP P g c st a w h hm t ht h0 h1 h2 h3 h4 u hu hb
      | false => exact marked_rec ts hE N ihP P g c st a w h hm t ht h0 h1 h2 h3 h4 u hu hb
     | false => exact marked_none ts hE N ihP P g c st a w h hm t ht h0 h1 h2 h3 h4
end Go.Proofs.YtpjkfeehgookkaaGreatDoor
namespace Go.Proofs.YtpjkfeehgookkaaGreatDoor
open Go.RowKit
structure Every (ts : List Tok) (N : Nat) : Prop where
 all : AllE ts N
 b : GB ts N
 f : GF ts N
 a : GA ts N
 pat : GP ts N 2 .pat 84
 patom : GP ts N 1 .patom 110
 m : GM ts N
theorem GE.zero (ts : List Tok) (lv : Nat) (nt : NT) (fid : FuncId) : GE ts 0 lv nt fid := fun _ _ _ _ _ _ h => absurd h (Nat.not_lt_zero _)
theorem every (ts : List Tok) (hE : EndOk ts) : ∀ N, Every ts N
 | 0 => ⟨⟨GE.zero _ _ _ _, GE.zero _ _ _ _, GE.zero _ _ _ _, GE.zero _ _ _ _, GE.zero _ _ _ _, GE.zero _ _ _ _, GE.zero _ _ _ _, GE.zero _ _ _ _, GE.zero _ _ _ _, GE.zero _ _ _ _, GE.zero _ _ _ _, GE.zero _ _ _ _⟩,
   fun _ _ _ _ _ _ _ h => absurd h (Nat.not_lt_zero _), fun _ _ _ _ _ _ _ _ _ h => absurd h (Nat.not_lt_zero _), fun _ _ _ _ _ _ _ _ h => absurd h (Nat.not_lt_zero _), fun _ _ _ _ _ _ h => absurd h (Nat.not_lt_zero _), fun _ _ _ _ _ _ h => absurd h (Nat.not_lt_zero _), fun _ _ _ _ _ _ _ h => absurd h (Nat.not_lt_zero _)⟩
 | N + 1 => by
  have ih := every ts hE N
  exact ⟨⟨fn_step ts hE N ih.all, seq_step ts hE N ih.all, item_step ts hE N ih.all ih.f ih.a, or_step ts hE N ih.all, and_step ts hE N ih.all, cmp_step ts hE N ih.all, sum_step ts hE N ih.all, prod_step ts hE N ih.all, unary_step ts hE N ih.all, app_step ts hE N ih.all, post_step ts hE N ih.all, atom_step ts hE N ih.all ih.b⟩,
   braces_step ts hE N ih.all, fn0_step ts hE N ih.all, arms_step ts hE N ih.all ih.pat, pat_step ts hE N ih.patom, patom_step ts hE N ih.m, marked_step ts hE N ih.pat⟩
theorem seq_any (ts : List Tok) (hE : EndOk ts) (P g c : Nat) (st : St) (w : World) (h : PSt P g c ts st w) : Calls Tryz.prog 20 #[.pointer (some ⟨P, 0, none⟩)] w (ExOk P g c ts st (body .seq) w) :=
 (every ts hE (16 * (ts.length - st.i) + 14)).all.seq P g c st w h (by omega)
end Go.Proofs.YtpjkfeehgookkaaGreatDoor
namespace Go.Proofs.YtpjkfeehgookkaaGreatDoor
open Go.RowKit
def SL {α : Type} (R : α → α → Prop) (l l' : List α) : Prop := l.length = l'.length ∧ ∀ (i : Nat) (x y : α), l[i]? = some x → l'[i]? = some y → R x y
theorem SL.nil_ {α : Type} (R : α → α → Prop) : SL R [] [] := ⟨rfl, fun i x y h => by simp at h⟩
theorem SL.app {α : Type} {R : α → α → Prop} {l l' : List α} {x y : α} (h : SL R l l') (hx : R x y) : SL R (l ++ [x]) (l' ++ [y]) := by
 refine ⟨by simp [h.1], fun i u v hu hv => ?_⟩
 rcases Nat.lt_trichotomy i l.length with hlt | heq | hgt
 ·rw [List.getElem?_append_left hlt] at hu
  rw [List.getElem?_append_left (by rw [← h.1]; exact hlt)] at hv
  exact h.2 i u v hu hv
 ·rw [heq, List.getElem?_append_right (Nat.le_refl _), Nat.sub_self] at hu
  rw [heq, h.1, List.getElem?_append_right (Nat.le_refl _), Nat.sub_self] at hv
  simp at hu hv
  subst hu; subst hv
  exact hx
 ·have : (l ++ [x])[i]? = none := List.getElem?_eq_none (by simp; omega)
  rw [this] at hu
  cases hu
theorem SL.one {α : Type} {R : α → α → Prop} {x y : α} (hx : R x y) : SL R [x] [y] := SL.app (SL.nil_ R) hx
theorem SL.two {α : Type} {R : α → α → Prop} {x y x2 y2 : α} (hx : R x y) (h2 : R x2 y2) : SL R [x, x2] [y, y2] := SL.app (SL.one hx) h2
theorem SL.three {α : Type} {R : α → α → Prop} {x y x2 y2 x3 y3 : α} (hx : R x y) (h2 : R x2 y2) (h3 : R x3 y3) : SL R [x, x2, x3] [y, y2, y3] := SL.app (SL.two hx h2) h3
inductive SameP : PatT → PatT → Prop
 | mk {k a a' nm n s ls args args'} (hl : args.length = args'.length) (h : ∀ (i : Nat) (x y : PatT), args[i]? = some x → args'[i]? = some y → SameP x y) : SameP (.mk k a nm n s ls args) (.mk k a' nm n s ls args')
inductive SameE : ExprT → ExprT → Prop
 | mk {k a a' nm n s ls args args' arms arms'} (hl : args.length = args'.length) (h : ∀ (i : Nat) (x y : ExprT), args[i]? = some x → args'[i]? = some y → SameE x y)
   (hl2 : arms.length = arms'.length) (hp : ∀ (i : Nat) (p p' : PatT) (x y : ExprT), arms[i]? = some (p, x) → arms'[i]? = some (p', y) → SameP p p')
   (hx : ∀ (i : Nat) (p p' : PatT) (x y : ExprT), arms[i]? = some (p, x) → arms'[i]? = some (p', y) → SameE x y) : SameE (.mk k a nm n s ls args arms) (.mk k a' nm n s ls args' arms')
def SameA (p q : PatT × ExprT) : Prop := SameP p.1 q.1 ∧ SameE p.2 q.2
theorem sP {k a a' : Int} {nm : List UInt8} {n : Int} {s : List UInt8} {ls : List (List UInt8)} {args args' : List PatT} (h : SL SameP args args') : SameP (.mk k a nm n s ls args) (.mk k a' nm n s ls args') := .mk h.1 h.2
theorem sE {k a a' : Int} {nm : List UInt8} {n : Int} {s : List UInt8} {ls : List (List UInt8)} {args args' : List ExprT} {arms arms' : List (PatT × ExprT)} (h : SL SameE args args') (hm : SL SameA arms arms') : SameE (.mk k a nm n s ls args arms) (.mk k a' nm n s ls args' arms') :=
 .mk h.1 h.2 hm.1 (fun i _p _p' _x _y h1 h2 => (hm.2 i _ _ h1 h2).1) (fun i _p _p' _x _y h1 h2 => (hm.2 i _ _ h1 h2).2)
theorem sE0 {k a a' : Int} {nm : List UInt8} {n : Int} {s : List UInt8} {ls : List (List UInt8)} {args args' : List ExprT} (h : SL SameE args args') : SameE (.mk k a nm n s ls args []) (.mk k a' nm n s ls args' []) := sE h (SL.nil_ _)
theorem sEl {k a a' : Int} {nm : List UInt8} {n : Int} {s : List UInt8} : SameE (.mk k a nm n s [] [] []) (.mk k a' nm n s [] [] []) := sE0 (SL.nil_ _)
theorem sPl {k a a' : Int} {nm : List UInt8} {n : Int} {s : List UInt8} : SameP (.mk k a nm n s [] []) (.mk k a' nm n s [] []) := sP (SL.nil_ _)
inductive PNR : PNT → PNT → Prop
 | pat : PNR .pat .pat
 | patom : PNR .patom .patom
 | marked {x y} (h : SameP x y) : PNR (.marked x) (.marked y)
 | recL {a a' ls args args'} (h : SL SameP args args') : PNR (.recL a ls args) (.recL a' ls args')
inductive NR : NT → NT → Prop
 | seq : NR .seq .seq
 | item : NR .item .item
 | fn : NR .fn .fn
 | arms {k a a'} : NR (.arms k a) (.arms k a')
 | armsL {k a a' x y acc acc'} (hx : SameE x y) (h : SL SameA acc acc') : NR (.armsL k a x acc) (.armsL k a' y acc')
 | or : NR .or .or
 | and : NR .and .and
 | cmp : NR .cmp .cmp
 | sum : NR .sum .sum
 | sumL {x y} (h : SameE x y) : NR (.sumL x) (.sumL y)
 | prod : NR .prod .prod
 | prodL {x y} (h : SameE x y) : NR (.prodL x) (.prodL y)
 | unary : NR .unary .unary
 | app : NR .app .app
 | opL {n a a' m acc acc'} (h : SL SameE acc acc') : NR (.opL n a m acc) (.opL n a' m acc')
 | appL {x y} (h : SameE x y) : NR (.appL x) (.appL y)
 | post : NR .post .post
 | postL {x y} (h : SameE x y) : NR (.postL x) (.postL y)
 | atom : NR .atom .atom
 | braces {a a'} : NR (.braces a) (.braces a')
 | recL {a a' ls args args'} (h : SL SameE args args') : NR (.recL a ls args) (.recL a' ls args')
def Dead (t : Tok) (c : Cmd) : Prop := ∀ (ts : List Tok) (i : Nat) (ok : Bool) (r : Rs) (st' : St), ts[i]? = some t → Run ts c ⟨i, ok⟩ r st' → st'.ok = false
inductive CR : Cmd → Cmd → Prop
 | retE {x y} (h : SameE x y) : CR (.retE x) (.retE y)
 | retP {x y} (h : SameP x y) : CR (.retP x) (.retP y)
 | look {k k'} (h : ∀ (q : Int) (a a' : Nat) (tx : List UInt8) (n : Int) (ok : Bool), CR (k ⟨q, a, tx, n⟩ ok) (k' ⟨q, a', tx, n⟩ ok))
   (h2 : ∀ (a a' : Nat) (tx : List UInt8) (n n' : Int) (ok : Bool), ¬ Dead ⟨0, a, tx, n⟩ (k ⟨0, a, tx, n⟩ ok) → CR (k ⟨0, a, tx, n⟩ ok) (k' ⟨7, a', [41], n'⟩ ok)) : CR (.look k) (.look k')
 | ahead {a a'} (h : ∀ n n', (n.k == 7 && n.text == [61]) = (n'.k == 7 && n'.text == [61]) → CR (.look (brK a n)) (.look (brK a' n'))) : CR (.ahead fun n => .look (brK a n)) (.ahead fun n => .look (brK a' n))
 | adv {c c'} (h : CR c c') : CR (.adv c) (.adv c')
 | fail {c c'} (h : CR c c') : CR (.fail c) (.fail c')
 | callE {nt nt' k k'} (hn : NR nt nt') (h : ∀ x y, SameE x y → CR (k x) (k' y)) : CR (.callE nt k) (.callE nt' k')
 | callP {nt nt' k k'} (hn : PNR nt nt') (h : ∀ x y, SameP x y → CR (k x) (k' y)) : CR (.callP nt k) (.callP nt' k')
theorem CR.ite {p : Prop} [Decidable p] {c d c' d' : Cmd} (h1 : p → CR c c') (h2 : ¬ p → CR d d') : CR (if p then c else d) (if p then c' else d') := by
 split
 ·exact h1 (by assumption)
 ·exact h2 (by assumption)
theorem isB_end (a : Nat) (tx : List UInt8) (n : Int) (ok : Bool) (l : List (List UInt8)) : isB ⟨0, a, tx, n⟩ ok l = false := by cases ok <;> rfl
theorem isB_close (a : Nat) (n : Int) (ok : Bool) (l : List (List UInt8)) (hl : l.contains [41] = false) : isB ⟨7, a, [41], n⟩ ok l = false := by
 show (ok && true && l.contains [41]) = false
 rw [hl]
 cases ok <;> rfl
theorem nameB_end (a : Nat) (tx : List UInt8) (n : Int) (ok : Bool) : nameB ⟨0, a, tx, n⟩ ok = false := by cases ok <;> rfl
theorem CR.may {s : List UInt8} {k k' : Bool → Cmd} (hs : [s].contains [41] = false) (h : ∀ b, CR (k b) (k' b)) : CR (mayC s k) (mayC s k') := by
 refine .look (fun q a a' tx n ok => ?_) (fun a a' tx n n' ok _ => ?_)
 ·exact CR.ite (fun _ => .adv (h true)) (fun _ => h false)
 ·rw [isB_end, isB_close _ _ _ _ hs, if_neg (by decide), if_neg (by decide)]
  exact h false
theorem Dead.fail {t : Tok} {c : Cmd} : Dead t (.fail c) := by
 intro ts i ok r st' ht h
 cases h with
 | fail hk =>
  have := hk.grows.2
  cases hok : st'.ok with
  | false => rfl
  | true => have := this hok; cases this
theorem Dead.callE {t : Tok} {nt : NT} {k : ExprT → Cmd} (h : Dead t (body nt)) : Dead t (.callE nt k) := by
 intro ts i ok r st' ht hr
 cases hr with
 | callE h1 hk =>
  have h2 := h _ _ _ _ _ ht h1
  cases hok : st'.ok with
  | false => rfl
  | true => have := hk.grows.2 hok; rw [h2] at this; cases this
theorem Dead.callP {t : Tok} {nt : PNT} {k : PatT → Cmd} (h : Dead t (bodyP nt)) : Dead t (.callP nt k) := by
 intro ts i ok r st' ht hr
 cases hr with
 | callP h1 hk =>
  have h2 := h _ _ _ _ _ ht h1
  cases hok : st'.ok with
  | false => rfl
  | true => have := hk.grows.2 hok; rw [h2] at this; cases this
theorem Dead.look {t : Tok} {k : Tok → Bool → Cmd} (h : ∀ ok, Dead t (k t ok)) : Dead t (.look k) := by
 intro ts i ok r st' ht hr
 cases hr with
 | look h1 hk => rw [ht] at h1; cases h1; exact h _ _ _ _ _ _ ht hk
section
variable {a : Nat} {tx : List UInt8} {n : Int}
theorem Dead.may {s : List UInt8} {k : Bool → Cmd} (h : Dead ⟨0, a, tx, n⟩ (k false)) : Dead ⟨0, a, tx, n⟩ (mayC s k) := .look fun ok => by
 rw [isB_end, if_neg (by decide)]; exact h
theorem Dead.is {l : List (List UInt8)} {k : Bool → Cmd} (h : Dead ⟨0, a, tx, n⟩ (k false)) : Dead ⟨0, a, tx, n⟩ (isC l k) := .look fun ok => by
 rw [isB_end]; exact h
theorem dead_atom : Dead ⟨0, a, tx, n⟩ (body .atom) := .look fun ok => by
 have : beginsB ⟨0, a, tx, n⟩ ok = false := by cases ok <;> rfl
 rw [this, if_neg (by simp)]
 exact .fail
theorem dead_post : Dead ⟨0, a, tx, n⟩ (body .post) := .look fun ok => .may (by rw [if_neg (by decide)]; exact .callE dead_atom)
theorem dead_app : Dead ⟨0, a, tx, n⟩ (body .app) := .look fun ok => by
 rw [if_neg (by simp), if_neg (by simp)]
 exact .callE dead_post
theorem dead_unary : Dead ⟨0, a, tx, n⟩ (body .unary) := .look fun ok => .may (by rw [if_neg (by decide)]; exact .may (by rw [if_neg (by decide)]; exact .callE dead_app))
theorem dead_prod : Dead ⟨0, a, tx, n⟩ (body .prod) := .callE dead_unary
theorem dead_sum : Dead ⟨0, a, tx, n⟩ (body .sum) := .callE dead_prod
theorem dead_cmp : Dead ⟨0, a, tx, n⟩ (body .cmp) := .callE dead_sum
theorem dead_and : Dead ⟨0, a, tx, n⟩ (body .and) := .callE dead_cmp
theorem dead_or : Dead ⟨0, a, tx, n⟩ (body .or) := .callE dead_and
theorem dead_item : Dead ⟨0, a, tx, n⟩ (body .item) := by
 refine .look fun ok => .may ?_
 rw [if_neg (by decide)]
 refine .is ?_
 rw [if_neg (by decide)]
 refine .may ?_
 rw [if_neg (by decide)]
 refine .may ?_
 rw [if_neg (by decide)]
 refine .may ?_
 rw [if_neg (by decide)]
 refine .may ?_
 rw [if_neg (by decide)]
 exact .callE dead_or
theorem dead_seq : Dead ⟨0, a, tx, n⟩ (body .seq) := .callE dead_item
theorem dead_marked (x : PatT) : Dead ⟨0, a, tx, n⟩ (bodyP (.marked x)) := by
 obtain ⟨k, a', nm, n', s, ls, args⟩ := x
 unfold bodyP
 refine .may ?_
 rw [if_neg (by decide)]
 refine .may ?_
 rw [if_neg (by decide)]
 refine .may ?_
 rw [if_neg (by decide)]
 refine .may ?_
 rw [if_neg (by decide)]
 refine .may ?_
 rw [if_neg (by decide)]
 exact .fail
theorem dead_false {ts : List Tok} {c : Cmd} {i : Nat} {r : Rs} {st' : St} (h : Run ts c ⟨i, false⟩ r st') : st'.ok = false := by
 cases hok : st'.ok with
 | false => rfl
 | true => have := h.grows.2 hok; cases this
theorem dead_patom : Dead ⟨0, a, tx, n⟩ (bodyP .patom) := by
 intro ts i ok r st' ht hr
 cases ok with
 | false => exact dead_false hr
 | true =>
  cases hr with
  | look h1 hk =>
   have h1 : ts[i]? = _ := h1
   rw [ht] at h1
   cases h1
   simp only [] at hk
   rw [if_neg (by decide), if_neg (by decide), if_neg (by decide), if_neg (by decide), if_neg (by decide)] at hk
   exact (Dead.callP (dead_marked _)) _ _ _ _ _ ht hk
theorem dead_pat : Dead ⟨0, a, tx, n⟩ (bodyP .pat) := .look fun ok => by
 rw [if_neg (by simp)]
 exact .callP dead_patom
theorem Dead.must {s : List UInt8} {c : Cmd} : Dead ⟨0, a, tx, n⟩ (mustC s c) := .look fun ok => by
 rw [isB_end, if_neg (by decide)]; exact .fail
end
theorem CR.close {k k' : Bool → Cmd} (h : ∀ b, CR (k b) (k' b)) (hd : ∀ a tx n, Dead ⟨0, a, tx, n⟩ (k false)) : CR (mayC [41] k) (mayC [41] k') := by
 refine .look (fun q a a' tx n ok => ?_) (fun a a' tx n n' ok hnd => absurd ?_ hnd)
 ·exact CR.ite (fun _ => .adv (h true)) (fun _ => h false)
 ·rw [isB_end, if_neg (by decide)]
  exact hd _ _ _
theorem CR.must {s : List UInt8} {c c' : Cmd} (h : CR c c') : CR (mustC s c) (mustC s c') := by
 refine .look (fun q a a' tx n ok => ?_) (fun a a' tx n n' ok hnd => absurd ?_ hnd)
 ·exact CR.ite (fun _ => .adv h) (fun _ => .fail h)
 ·rw [isB_end, if_neg (by decide)]
  exact .fail
theorem CR.name {k k' : List UInt8 → Cmd} (h : ∀ s, CR (k s) (k' s)) : CR (nameC k) (nameC k') := by
 refine .look (fun q a a' tx n ok => ?_) (fun a a' tx n n' ok hnd => absurd ?_ hnd)
 ·exact CR.ite (fun _ => .adv (h _)) (fun _ => .fail (h _))
 ·rw [nameB_end, if_neg (by decide)]
  exact .fail
theorem CR.is {l : List (List UInt8)} {k k' : Bool → Cmd} (hl : l.contains [41] = false) (h : ∀ b, CR (k b) (k' b)) : CR (isC l k) (isC l k') := by
 refine .look (fun q a a' tx n ok => ?_) (fun a a' tx n n' ok _ => ?_)
 ·exact h _
 ·rw [isB_end, isB_close _ _ _ _ hl]
  exact h _
theorem CR.see {k k' : Tok → Bool → Cmd} (h : ∀ t t' ok, CR (k t ok) (k' t' ok)) : CR (.look k) (.look k') := .look (fun _q _a _a' _tx _n _ok => h _ _ _) (fun _a _a' _tx _n _n' _ok _ => h _ _ _)
theorem crP {nt nt' : PNT} (h : PNR nt nt') : CR (bodyP nt) (bodyP nt') := by
 cases h with
 | pat =>
  refine .look (fun q a a' tx n ok => ?_) (fun a a' tx n n' ok _ => ?_)
  ·exact .ite (fun _ => .adv (.callP .patom fun x y h => .retP (sP (SL.one h)))) (fun _ => .callP .patom fun x y h => .retP h)
  ·rw [if_neg (by simp), if_neg (by simp)]
   exact .callP .patom fun x y h => .retP h
 | patom =>
  refine .look (fun q a a' tx n ok => ?_) (fun a a' tx n n' ok _ => ?_)
  ·refine .ite (fun _ => .retP sPl) (fun _ => .ite (fun _ => .adv ?_) (fun _ => .ite (fun _ => .adv (.retP sPl)) (fun _ => .ite (fun _ => .adv (.retP sPl)) (fun _ => .ite (fun _ => .adv (.retP sPl)) (fun _ => .callP (.marked sPl) fun x y h => .retP h)))))
   refine .retP ?_
   show SameP (if _ then _ else _) (if _ then _ else _)
   split <;> exact sPl
  ·refine .ite (fun _ => .retP sPl) (fun _ => ?_)
   rw [if_neg (by simp), if_neg (by simp), if_neg (by simp), if_neg (by simp), if_neg (by simp), if_neg (by simp), if_neg (by simp), if_neg (by simp)]
   exact .callP (.marked sPl) fun x y h => .retP h
 | marked h =>
  cases h with
  | mk hl h =>
   have hh := SL.two (R := SameP) (x := .zero) (y := .zero) (x2 := .zero) (y2 := .zero) sPl sPl
   unfold bodyP
   refine .may rfl fun b => .ite (fun _ => ?_) (fun _ => .may rfl fun b => .ite (fun _ => .retP (.mk hl h)) (fun _ => .may rfl fun b => .ite (fun _ => .retP (.mk hl h)) (fun _ => .may rfl fun b => .ite (fun _ => ?_) (fun _ => .may rfl fun b => .ite (fun _ => ?_) (fun _ => .fail (.retP (.mk hl h)))))))
   ·refine .look (fun q a a' tx n ok => ?_) (fun a a' tx n n' ok _ => ?_)
    ·exact .ite (fun _ => .ite (fun _ => .adv (.retP (.mk hl h))) (fun _ => .retP (.mk hl h))) (fun _ => .fail (.retP (.mk hl h)))
    ·rw [if_neg (by simp), if_neg (by simp)]
     exact .fail (.retP (.mk hl h))
   ·exact .close (fun b => .ite (fun _ => .retP (.mk hl h)) (fun _ => .callP .pat fun x y h => .must (.retP h))) (fun a tx n => by rw [if_neg (by decide)]; exact .callP dead_pat)
   ·exact .may rfl fun b => .ite (fun _ => .retP (.mk hl h)) (fun _ => .see fun t t' ok => .ite (fun _ => .callP (.recL ⟨hl, h⟩) fun x y h => .retP h) (fun _ => .must (.retP (.mk hl h))))
 | recL h =>
  unfold bodyP
  exact .name fun s => .must (.callP .pat fun x y hx => .may rfl fun b => .ite (fun _ => .callP (.recL (h.app hx)) fun x y h => .retP h) (fun _ => .must (.retP (sP (h.app hx)))))
theorem cr_brK (a a' : Int) (n n' : Tok) (hn : (n.k == 7 && n.text == [61]) = (n'.k == 7 && n'.text == [61])) : CR (.look (brK a n)) (.look (brK a' n')) := by
 have hb : ∀ (c c' : Bool), c = c' → CR (if c = true then (.callE (.recL a [] []) .retE) else mustC [125] (.retE (.mk 12 a [] 0 [] [] [] []))) (if c' = true then (.callE (.recL a' [] []) .retE) else mustC [125] (.retE (.mk 12 a' [] 0 [] [] [] []))) := by
  intro c c' e
  subst e
  exact .ite (fun _ => .callE (.recL (SL.nil_ _)) fun x y h => .retE h) (fun _ => .must (.retE sEl))
 have he : CR (.callE .seq fun x => mustC [119, 105, 116, 104] (nameC fun nm => mustC [61] (.callE .seq fun y => mustC [125] (.retE (.mk 13 a nm 0 [] [] [x, y] [])))))
   (.callE .seq fun x => mustC [119, 105, 116, 104] (nameC fun nm => mustC [61] (.callE .seq fun y => mustC [125] (.retE (.mk 13 a' nm 0 [] [] [x, y] []))))) :=
  .callE .seq fun x y h => .must (.name fun s => .must (.callE .seq fun x2 y2 h2 => .must (.retE (sE0 (SL.two h h2)))))
 refine .look (fun q a0 a1 tx n0 ok => ?_) (fun a0 a1 tx n0 n1 ok _ => ?_)
 ·unfold brK
  rw [hn]
  exact .ite (fun _ => hb _ _ rfl) (fun _ => he)
 ·unfold brK
  rw [if_neg (by simp), if_neg (by simp)]
  exact he
theorem crE {nt nt' : NT} (h : NR nt nt') : CR (body nt) (body nt') := by
 cases h with
 | seq => exact .callE .item fun x y h => .see fun t t' ok => .may rfl fun b => .ite (fun _ => .callE .seq fun x2 y2 h2 => .retE (sE0 (SL.two h h2))) (fun _ => .retE h)
 | item =>
  refine .see fun t t' ok => .may rfl fun b => .ite (fun _ => ?_) (fun _ => .is rfl fun b => .ite (fun _ => .callE .fn fun x y h => .retE h) (fun _ => .may rfl fun b => .ite (fun _ => .callE .arms fun x y h => .retE h) (fun _ => .may rfl fun b => .ite (fun _ => .callE .arms fun x y h => .retE h) (fun _ => .may rfl fun b => .ite (fun _ => ?_) (fun _ => .may rfl fun b => .ite (fun _ => .callE .post fun x y h => .retE (sE0 (SL.one h))) (fun _ => ?_))))))
  ·refine .may rfl fun r => .name fun s => .must (.callE ?_ fun x y h => .must (.callE .seq fun x2 y2 h2 => .retE (sE0 (SL.two h h2))))
   cases r
   ·exact .seq
   ·exact .fn
  ·exact .callE .seq fun x y h => .must (.callE .item fun x2 y2 h2 => .must (.callE .item fun x3 y3 h3 => .retE (sE0 (SL.three h h2 h3))))
  ·exact .callE .or fun x y h => .see fun t t' ok => .may rfl fun b => .ite (fun _ => .callE .item fun x2 y2 h2 => .retE (sE0 (SL.two h h2))) (fun _ => .retE h)
 | fn => exact .see fun t t' ok => .must (.name fun s => .must (.callE .seq fun x y h => .retE (sE0 (SL.one h))))
 | arms => exact .callE .seq fun x y h => .must (.see fun t t' ok => .ite (fun _ => .callE (.armsL h (SL.nil_ _)) fun x y h => .retE h) (fun _ => .must (.retE (sE0 (SL.one h)))))
 | armsL hx h => exact .callP .pat fun p q hp => .must (.callE .seq fun x y h2 => .may rfl fun b => .ite (fun _ => .callE (.armsL hx (h.app ⟨hp, h2⟩)) fun x y h => .retE h) (fun _ => .must (.retE (sE (SL.one hx) (h.app ⟨hp, h2⟩)))))
 | or => exact .callE .and fun x y h => .see fun t t' ok => .may rfl fun b => .ite (fun _ => .callE .or fun x2 y2 h2 => .retE (sE0 (SL.two h h2))) (fun _ => .retE h)
 | and => exact .callE .cmp fun x y h => .see fun t t' ok => .may rfl fun b => .ite (fun _ => .callE .and fun x2 y2 h2 => .retE (sE0 (SL.two h h2))) (fun _ => .retE h)
 | cmp =>
  refine .callE .sum fun x y h => .look (fun q a a' tx n ok => ?_) (fun a a' tx n n' ok _ => ?_)
  ·exact .ite (fun _ => .adv (.callE .sum fun x2 y2 h2 => .retE (sE0 (SL.two h h2)))) (fun _ => .retE h)
  ·rw [isB_end, isB_close _ _ _ _ rfl, if_neg (by decide), if_neg (by decide)]
   exact .retE h
 | sum => exact .callE .prod fun x y h => .callE (.sumL h) fun x y h => .retE h
 | sumL h =>
  refine .look (fun q a a' tx n ok => ?_) (fun a a' tx n n' ok _ => ?_)
  ·exact .ite (fun _ => .adv (.callE .prod fun x2 y2 h2 => .callE (.sumL (sE0 (SL.two h h2))) fun x y h => .retE h)) (fun _ => .retE h)
  ·rw [isB_end, isB_close _ _ _ _ rfl, if_neg (by decide), if_neg (by decide)]
   exact .retE h
 | prod => exact .callE .unary fun x y h => .callE (.prodL h) fun x y h => .retE h
 | prodL h =>
  refine .look (fun q a a' tx n ok => ?_) (fun a a' tx n n' ok _ => ?_)
  ·exact .ite (fun _ => .adv (.callE .unary fun x2 y2 h2 => .callE (.prodL (sE0 (SL.two h h2))) fun x y h => .retE h)) (fun _ => .retE h)
  ·rw [isB_end, isB_close _ _ _ _ rfl, if_neg (by decide), if_neg (by decide)]
   exact .retE h
 | unary => exact .see fun t t' ok => .may rfl fun b => .ite (fun _ => .callE .unary fun x y h => .retE (sE0 (SL.one h))) (fun _ => .may rfl fun b => .ite (fun _ => .callE .unary fun x y h => .retE (sE0 (SL.one h))) (fun _ => .callE .app fun x y h => .retE h))
 | app =>
  refine .look (fun q a a' tx n ok => ?_) (fun a a' tx n n' ok _ => ?_)
  ·exact .ite (fun _ => .adv (.callE .post fun x y h => .retE (sE0 (SL.one h)))) (fun _ => .ite (fun _ => .adv (.callE (.opL (SL.nil_ _)) fun x y h => .retE h)) (fun _ => .callE .post fun x y h => .callE (.appL h) fun x y h => .retE h))
  ·rw [if_neg (by simp), if_neg (by simp), if_neg (by simp), if_neg (by simp)]
   exact .callE .post fun x y h => .callE (.appL h) fun x y h => .retE h
 | @opL n a a' m acc acc' h =>
  cases m with
  | zero => exact .retE (sE0 h)
  | succ m => exact .callE .post fun x y hx => .callE (.opL (h.app hx)) fun x y h => .retE h
 | appL h =>
  refine .look (fun q a a' tx n ok => ?_) (fun a a' tx n n' ok _ => ?_)
  ·exact .ite (fun _ => .callE .post fun x2 y2 h2 => .callE (.appL (sE0 (SL.two h h2))) fun x y h => .retE h) (fun _ => .retE h)
  ·have e1 : beginsB ⟨0, a, tx, n⟩ ok = false := by cases ok <;> rfl
   have e2 : beginsB ⟨7, a', [41], n'⟩ ok = false := by cases ok <;> rfl
   rw [e1, e2, if_neg (by decide), if_neg (by decide)]
   exact .retE h
 | post => exact .see fun t t' ok => .may rfl fun b => .ite (fun _ => .callE .post fun x y h => .retE (sE0 (SL.one h))) (fun _ => .callE .atom fun x y h => .callE (.postL h) fun x y h => .retE h)
 | postL h =>
  refine .look (fun q a a' tx n ok => ?_) (fun a a' tx n n' ok _ => ?_)
  ·exact .ite (fun _ => .adv (.name fun s => .callE (.postL (sE0 (SL.one h))) fun x y h => .retE h)) (fun _ => .retE h)
  ·rw [isB_end, isB_close _ _ _ _ rfl, if_neg (by decide), if_neg (by decide)]
   exact .retE h
 | atom =>
  refine .look (fun q a a' tx n ok => ?_) (fun a a' tx n n' ok _ => ?_)
  ·refine .ite (fun _ => .adv ?_) (fun _ => .fail (.retE sEl))
   refine .ite (fun _ => .retE sEl) (fun _ => .ite (fun _ => .retE sEl) (fun _ => .ite (fun _ => .retE sEl) (fun _ => .ite (fun _ => .retE sEl) (fun _ => .ite (fun _ => .retE sEl) (fun _ => .ite (fun _ => .retE sEl) (fun _ => .ite (fun _ => .callE .braces fun x y h => .retE h) (fun _ => ?_)))))))
   exact .close (fun b => .ite (fun _ => .retE sEl) (fun _ => .callE .seq fun x y h => .must (.retE h))) (fun a tx n => by rw [if_neg (by decide)]; exact .callE dead_seq)
  ·have e1 : beginsB ⟨0, a, tx, n⟩ ok = false := by cases ok <;> rfl
   have e2 : beginsB ⟨7, a', [41], n'⟩ ok = false := by cases ok <;> rfl
   rw [e1, e2, if_neg (by simp), if_neg (by simp)]
   exact .fail (.retE sEl)
 | @braces a a' =>
  unfold body
  exact .may rfl fun b => .ite (fun _ => .retE sEl) (fun _ => .ahead (fun n n' hn => cr_brK a a' n n' hn))
 | recL h =>
  unfold body
  exact .name fun s => .must (.callE .seq fun x y hx => .may rfl fun b => .ite (fun _ => .callE (.recL (h.app hx)) fun x y h => .retE h) (fun _ => .must (.retE (sE0 (h.app hx)))))
inductive RsR : Rs → Rs → Prop
 | e {x y} (h : SameE x y) : RsR (.e x) (.e y)
 | p {x y} (h : SameP x y) : RsR (.p x) (.p y)
theorem Run.sim {ts ts2 : List Tok} {d : Nat} {strict : Prop} (hE : EndsT ts) (hE2 : EndsT ts2)
  (hT : ∀ (j : Nat) (q : Int) (a : Nat) (tx : List UInt8) (n : Int), ts[j]? = some ⟨q, a, tx, n⟩ → (∃ a', ts2[j + d]? = some ⟨q, a', tx, n⟩) ∨ (strict ∧ q = 0 ∧ ∃ a' n', ts2[j + d]? = some ⟨7, a', [41], n'⟩))
  {c : Cmd} {st : St} {r : Rs} {st' : St} (h : Run ts c st r st') : ∀ {c2 : Cmd}, CR c c2 → (strict → st'.ok = true) → ∃ r2, RsR r r2 ∧ Run ts2 c2 ⟨st.i + d, st.ok⟩ r2 ⟨st'.i + d, st'.ok⟩ := by
 induction h with
 | retE => intro c2 hc _; cases hc with | retE h => exact ⟨_, .e h, .retE⟩
 | retP => intro c2 hc _; cases hc with | retP h => exact ⟨_, .p h, .retP⟩
 | @look k t st r st' h hk ih =>
  intro c2 hc hok
  obtain ⟨q, a, tx, n⟩ := t
  cases hc with
  | look h1 h2 =>
   rcases hT _ _ _ _ _ h with ⟨a', ht⟩ | ⟨hs, rfl, a', n', ht⟩
   ·obtain ⟨r2, e, hr⟩ := ih (h1 q a a' tx n _) hok
    exact ⟨r2, e, .look ht hr⟩
   ·by_cases hd : Dead ⟨0, a, tx, n⟩ (k ⟨0, a, tx, n⟩ st.ok)
    ·have h3 := hd _ _ _ _ _ h hk
     rw [hok hs] at h3
     cases h3
    ·obtain ⟨r2, e, hr⟩ := ih (h2 a a' tx n n' st.ok hd) hok
     exact ⟨r2, e, .look ht hr⟩
 | @ahead k n st r st' h hk ih =>
  intro c2 hc hok
  cases hc with
  | @ahead a a' hn =>
   have key : ∃ n', aheadT ts2 (st.i + d) = some n' := by
    unfold aheadT
    cases hk with
    | @look _ t _ _ _ ht hk =>
     obtain ⟨q, b, tx, m⟩ := t
     have hl : ts2.length ≠ 0 := by
      rcases hT _ _ _ _ _ ht with ⟨b', h'⟩ | ⟨_, _, b', n', h'⟩ <;> (intro e; rw [List.length_eq_zero_iff.1 e] at h'; simp at h')
     exact ⟨_, List.getElem?_eq_getElem (by omega)⟩
   obtain ⟨n', hn'⟩ := key
   cases hk2 : hk with
   | @look _ t _ _ _ ht hk3 =>
    obtain ⟨q, b, tx, m⟩ := t
    by_cases hq : q = 1
    ·subst hq
     rw [aheadT_eq hE ht (by simp)] at h
     obtain ⟨b', ht'⟩ : ∃ b', ts2[st.i + d]? = some ⟨1, b', tx, m⟩ := by
      rcases hT _ _ _ _ _ ht with h' | ⟨_, h', _⟩
      ·exact h'
      ·cases h'
     rw [aheadT_eq hE2 ht' (by simp)] at hn'
     have hcond : (n.k == 7 && n.text == [61]) = (n'.k == 7 && n'.text == [61]) := by
      obtain ⟨q, b2, tx2, m2⟩ := n
      rcases hT _ _ _ _ _ h with ⟨b3, h'⟩ | ⟨_, rfl, b3, m3, h'⟩
      ·rw [show st.i + 1 + d = st.i + d + 1 by omega, hn'] at h'
       cases h'
       rfl
      ·rw [show st.i + 1 + d = st.i + d + 1 by omega, hn'] at h'
       cases h'
       rfl
     obtain ⟨r2, e, hr⟩ := ih (hn n n' hcond) hok
     exact ⟨r2, e, .ahead (by simp only; rw [aheadT_eq hE2 ht' (by simp)]; exact hn') hr⟩
    ·obtain ⟨r2, e, hr⟩ := ih (hn n n rfl) hok
     refine ⟨r2, e, .ahead hn' ?_⟩
     cases hr with
     | look ht' hk' =>
      refine .look ht' ?_
      rename_i t'
      have : t'.k ≠ 1 := by
       rcases hT _ _ _ _ _ ht with ⟨b', h'⟩ | ⟨_, _, b', n2, h'⟩
       ·rw [show ts2[st.i + d]? = some t' from ht'] at h'
        cases h'
        exact hq
       ·rw [show ts2[st.i + d]? = some t' from ht'] at h'
        cases h'
        simp
      rw [brK_eq this (n' := n)]
      exact hk'
 | adv hk ih =>
  intro c2 hc hok
  cases hc with
  | adv hc =>
   obtain ⟨r2, e, hr⟩ := ih hc hok
   refine ⟨r2, e, .adv ?_⟩
   simp only at hr ⊢
   rw [Nat.add_right_comm]
   exact hr
 | fail hk ih =>
  intro c2 hc hok
  cases hc with
  | fail hc =>
   obtain ⟨r2, e, hr⟩ := ih hc hok
   exact ⟨r2, e, .fail hr⟩
 | @callE nt k st x st1 r st' h hk ih1 ih2 =>
  intro c2 hc hok
  cases hc with
  | callE hn hc =>
   obtain ⟨r1, e1, hr1⟩ := ih1 (crE hn) (fun hs => hk.grows.2 (hok hs))
   cases e1 with
   | e hx =>
    obtain ⟨r2, e2, hr2⟩ := ih2 (hc _ _ hx) hok
    exact ⟨r2, e2, .callE hr1 hr2⟩
 | @callP nt k st x st1 r st' h hk ih1 ih2 =>
  intro c2 hc hok
  cases hc with
  | callP hn hc =>
   obtain ⟨r1, e1, hr1⟩ := ih1 (crP hn) (fun hs => hk.grows.2 (hok hs))
   cases e1 with
   | p hx =>
    obtain ⟨r2, e2, hr2⟩ := ih2 (hc _ _ hx) hok
    exact ⟨r2, e2, .callP hr1 hr2⟩
end Go.Proofs.YtpjkfeehgookkaaGreatDoor
namespace Go.Proofs.YtpjkfeehgookkaaGreatDoor
open Go.RowKit
attribute [local go_sem ↓] Go.wp_at_zero Go.wp_at_succ
theorem endOk_of {s : List UInt8} {ts : List Tok} (h : lexOf s = .ok ts) : EndOk ts := by
 obtain ⟨_, _, h3, h4, ys, rfl, hg⟩ := lexOf_ok h
 refine ⟨h3, fun i t ht => ⟨?_, h4 t (List.mem_of_getElem? ht)⟩⟩
 rw [List.length_append, List.length_singleton]
 rcases Nat.lt_trichotomy i ys.length with hi | hi | hi
 ·rw [List.getElem?_append_left hi] at ht
  have := hg t (List.mem_of_getElem? ht)
  exact ⟨fun _ => by omega, fun _ h => by have := this.1; omega⟩
 ·subst hi
  rw [List.getElem?_append_right (Nat.le_refl _), Nat.sub_self] at ht
  simp at ht
  subst ht
  exact ⟨fun h => absurd rfl h, fun h => by omega⟩
 ·have : (ys ++ [(⟨0, s.length, [], 0⟩ : Tok)])[i]? = none := List.getElem?_eq_none (by simp; omega)
  rw [this] at ht
  cases ht
theorem endsT_of {ts : List Tok} (h : EndOk ts) : EndsT ts := fun j t ht hk => (h.2 j t ht).1.1 hk
inductive PR (s : List UInt8) : ExprT → Int → Int → Prop
 | lexErr {er : Int} {p : Nat} (h : lexOf s = .error (er, p)) : PR s .zero er p
 | syn {ts : List Tok} {x : ExprT} {st' : St} {t : Tok} (hl : lexOf s = .ok ts) (hr : Run ts (body .seq) ⟨0, true⟩ (.e x) st') (ht : ts[st'.i]? = some t) (hbad : st'.ok = false ∨ t.k ≠ 0) : PR s .zero 21 t.at'
 | many {ts : List Tok} {x : ExprT} {st' : St} {t : Tok} (hl : lexOf s = .ok ts) (hr : Run ts (body .seq) ⟨0, true⟩ (.e x) st') (ht : ts[st'.i]? = some t) (hok : st'.ok = true) (hend : t.k = 0) (hm : 4096 < szE x) : PR s .zero 3 0
 | deep {ts : List Tok} {x : ExprT} {st' : St} {t : Tok} {p : Int × Nat} (hl : lexOf s = .ok ts) (hr : Run ts (body .seq) ⟨0, true⟩ (.e x) st') (ht : ts[st'.i]? = some t) (hok : st'.ok = true) (hend : t.k = 0) (hm : szE x ≤ 4096) (hd : deepOf 200 x = some p) : PR s .zero 22 p.1
 | ok {ts : List Tok} {x : ExprT} {st' : St} {t : Tok} (hl : lexOf s = .ok ts) (hr : Run ts (body .seq) ⟨0, true⟩ (.e x) st') (ht : ts[st'.i]? = some t) (hok : st'.ok = true) (hend : t.k = 0) (hm : szE x ≤ 4096) (hd : deepOf 200 x = none) : PR s x 0 0
set_option maxHeartbeats 8000000 in
set_option maxRecDepth 100000 in
theorem Parse_any (s : ByteArray) (hs : s.size ≤ 9223372036854775807) (w : World) (hV : EnvL w) :
  Calls Tryz.prog 12 #[.string s] w fun e w' => ∃ (k a : Int) (nm : List UInt8) (n : Int) (s' : List UInt8) (ls : List (List UInt8)) (args : List ExprT) (arms : List (PatT × ExprT)) (A5 : Option Addr) (n5 c5 : Nat) (A6 : Option Addr) (n6 c6 : Nat) (A7 : Option Addr) (n7 c7 : Nat) (er at_ : Int),
   e = .returned (.tuple #[.agg #[.int .i64 k, .int .i64 a, .string ⟨nm.toArray⟩, .int .i64 n, .string ⟨s'.toArray⟩, .slice A5 n5 c5, .slice A6 n6 c6, .slice A7 n7 c7], .int .i64 er, .int .i64 at_]) ∧ ExprAt w' (fun b => w.heap.size ≤ b) (.mk k a nm n s' ls args arms) [.int .i64 k, .int .i64 a, .string ⟨nm.toArray⟩, .int .i64 n, .string ⟨s'.toArray⟩, .slice A5 n5 c5, .slice A6 n6 c6, .slice A7 n7 c7] ∧ PR s.data.toList (.mk k a nm n s' ls args arms) er at_ ∧ Fr [] w w' := by
 have HV := Lib.hid hV
 have HS := Lib.hid hs
 clear hV hs
 go_enter Tryz.func12, Tryz.ntmps12
 go_wp2_with fail
 have f0 : Fr [] w (w.alloc (.cells #[.int .i64 0, .int .i64 0, .string ⟨#[]⟩, .int .i64 0, .string ⟨#[]⟩, .slice none 0 0, .slice none 0 0, .slice none 0 0] 27)) := (Fr.refl [] w).alloc _
 have g0 := heap_new w (.cells #[.int .i64 0, .int .i64 0, .string ⟨#[]⟩, .int .i64 0, .string ⟨#[]⟩, .slice none 0 0, .slice none 0 0, .slice none 0 0] 27)
 generalize w.alloc (.cells #[.int .i64 0, .int .i64 0, .string ⟨#[]⟩, .int .i64 0, .string ⟨#[]⟩, .slice none 0 0, .slice none 0 0, .slice none 0 0] 27) = w1 at *
 generalize hB : w.heap.size = B at *
 cases hl : lexOf s.data.toList with
 | error x =>
  obtain ⟨er, p⟩ := x
  have her : er ≠ 0 := by rcases lexOf_err hl with ⟨_, h, _⟩ | ⟨_, _, h, _⟩ <;> omega
  have her2 : (er != 0) = true := bne_iff_ne.2 her
  have HL := Lib.hid hl
  clear hl her
  refine (Lex_er s HS.out HL.out w1 (HV.out.fr f0)).mono ?_
  rintro e w2 ⟨rfl, f1⟩
  have g0 := f1.keep g0 (fun x => by cases x)
  have F := f0.trans f1
  clear f0 f1
  have HG := Lib.hid (st8_heap g0 (.int .i64 0) (.int .i64 0) (.string ⟨#[]⟩) (.int .i64 0) (.string ⟨#[]⟩) (.slice none 0 0) (.slice none 0 0) (.slice none 0 0))
  have HF := Lib.hid (F.step (st8_fr w2 B (.int .i64 0) (.int .i64 0) (.string ⟨#[]⟩) (.int .i64 0) (.string ⟨#[]⟩) (.slice none 0 0) (.slice none 0 0) (.slice none 0 0)) (fun x hx => .inr (by simp at hx; omega)))
  unfold st8 at HG HF
  have hBy := lt_of_heap g0
  obtain ⟨⟨u0, u1, u2, u3, u4, u5, u6, u7⟩, z0, z1, z2, z3, z4, z5, z6, z7⟩ := cells8 g0
  go_wp2_with fail
  generalize (((((((w2.setCell ⟨B, 0, none⟩ (.int .i64 0)).setCell ⟨B, 1, none⟩ (.int .i64 0)).setCell ⟨B, 2, none⟩ (.string ⟨#[]⟩)).setCell ⟨B, 3, none⟩ (.int .i64 0)).setCell ⟨B, 4, none⟩ (.string ⟨#[]⟩)).setCell ⟨B, 5, none⟩ (.slice none 0 0)).setCell ⟨B, 6, none⟩ (.slice none 0 0)).setCell ⟨B, 7, none⟩ (.slice none 0 0) = Z at HG HF ⊢
  obtain ⟨⟨d0, d1, d2, d3, d4, d5, d6, d7⟩, _⟩ := cells8 HG.out
  refine bodyPost_ret (v := .tuple #[.agg #[.int .i64 0, .int .i64 0, .string ⟨#[]⟩, .int .i64 0, .string ⟨#[]⟩, .slice none 0 0, .slice none 0 0, .slice none 0 0], .int .i64 er, .int .i64 p]) ?_ rfl ?_
  ·simp [results, Tryz.f12, go_sem, d0, d1, d2, d3, d4, d5, d6, d7]
  ·exact ⟨0, 0, [], 0, [], [], [], [], none, 0, 0, none, 0, 0, none, 0, 0, er, p, rfl, ExprAt.leaf Z _ 0 0 [] 0 [], PR.lexErr HL.out, HF.out⟩
 | ok ts =>
  have HE := Lib.hid (endOk_of hl)
  obtain ⟨_, _, _, _, ys, hys, _⟩ := lexOf_ok hl
  have htl : 0 < ts.length := by rw [hys]; simp
  clear hys
  have HL := Lib.hid hl
  clear hl
  refine (Lex_ok s HS.out HL.out w1 (HV.out.fr f0)).mono ?_
  rintro e w2 ⟨⟨g, c, rfl, hg, hRT⟩, f1⟩
  have HRT := Lib.hid hRT
  clear hRT
  have g0 := f1.keep g0 (fun x => by cases x)
  have F := f0.trans f1
  have hBw := lt_of_heap g0
  clear f0 f1
  go_wp2_with fail
  have fp : Fr [] w2 (w2.alloc (.cells #[.slice (some ⟨g, 0, none⟩) ts.length c, .int .i64 0, .bool true] 52)) := (Fr.refl [] w2).alloc _
  have qP := heap_new w2 (.cells #[.slice (some ⟨g, 0, none⟩) ts.length c, .int .i64 0, .bool true] 52)
  have h0 : PSt w2.heap.size g c ts ⟨0, true⟩ (w2.alloc (.cells #[.slice (some ⟨g, 0, none⟩) ts.length c, .int .i64 0, .bool true] 52)) := ⟨qP, HRT.out.fr fp hg, Nat.lt_of_lt_of_le hg fp.size, by omega, htl⟩
  have g0 := fp.keep g0 (fun x => by cases x)
  have F := F.trans fp
  generalize w2.alloc (.cells #[.slice (some ⟨g, 0, none⟩) ts.length c, .int .i64 0, .bool true] 52) = w3 at *
  generalize w2.heap.size = P at *
  clear HRT qP fp
  have hBw3 := lt_of_heap g0
  have hPw3 := lt_of_heap h0.blk
  refine (seq_any ts HE.out P g c ⟨0, true⟩ w3 h0).mono ?_
  rintro e x1 ⟨k1, a1, nm1, n1, s1, ls1, args1, arms1, A51, n51, c51, A61, n61, c61, A71, n71, c71, st2, rfl, hx1, hr1, hst2, f1⟩
  have g0 := f1.keep g0 (by simp; omega)
  have F := F.step f1 (fun x hx => .inr (by simp at hx; omega))
  have hs1 := f1.size
  have hBx1 := lt_of_heap g0
  clear f1 h0
  obtain ⟨p0, p1, p2, _⟩ := cells3 hst2.blk
  have hPx := lt_of_heap hst2.blk
  obtain ⟨t, ht⟩ := tok_at hst2.inb
  have HT := Lib.hid ht
  clear ht
  cases hok : st2.ok with
  | false =>
   rw [hok] at p2
   have HOK := Lib.hid hok
   clear hok
   have r1 := tok_f1
   go_wp2_with fail
   clear p0 p1 p2
   have q1 := heap_new x1 (.cells #[.int .i64 k1, .int .i64 a1, .string ⟨nm1.toArray⟩, .int .i64 n1, .string ⟨s1.toArray⟩, .slice A51 n51 c51, .slice A61 n61 c61, .slice A71 n71 c71] 27)
   have fb1 : Fr [] x1 (x1.alloc (.cells #[.int .i64 k1, .int .i64 a1, .string ⟨nm1.toArray⟩, .int .i64 n1, .string ⟨s1.toArray⟩, .slice A51 n51 c51, .slice A61 n61 c61, .slice A71 n71 c71] 27)) := (Fr.refl [] x1).alloc _
   generalize hY1 : x1.alloc (.cells #[.int .i64 k1, .int .i64 a1, .string ⟨nm1.toArray⟩, .int .i64 n1, .string ⟨s1.toArray⟩, .slice A51 n51 c51, .slice A61 n61 c61, .slice A71 n71 c71] 27) = x2 at *
   have hT1 := lt_of_heap q1
   generalize hTT1 : x1.heap.size = T9 at *
   have g0 := fb1.keep g0 (fun x => by cases x)
   have h2 := hst2.fr fb1
   have F := F.trans fb1
   have hx1 := hx1.keep (ok' := fun b => B < b ∧ b < x2.heap.size) (Sh.of_fr fb1 (fun b hb hlt => ⟨⟨by omega, by have := fb1.size; omega⟩, fun x => by cases x⟩))
   clear fb1 hst2
   refine (now_any P g c ts st2 t HT.out x2 h2 HE.out).mono ?_
   rintro e y9 ⟨rfl, fm⟩
   have g0 := fm.keep g0 (fun x => by cases x)
   have F := F.trans0 fm
   have h2 := h2.fr fm
   have q1 := fm.keep q1 (fun x => by cases x)
   have hx1 := hx1.keep (ok' := fun b => B < b ∧ b < y9.heap.size) (Sh.of_fr fm (fun b hb hlt => ⟨⟨hb.1, by have := fm.size; omega⟩, fun x => by cases x⟩))
   clear fm
   have HG := Lib.hid (st8_heap g0 (.int .i64 0) (.int .i64 0) (.string ⟨#[]⟩) (.int .i64 0) (.string ⟨#[]⟩) (.slice none 0 0) (.slice none 0 0) (.slice none 0 0))
   have HF := Lib.hid (F.step (st8_fr y9 B (.int .i64 0) (.int .i64 0) (.string ⟨#[]⟩) (.int .i64 0) (.string ⟨#[]⟩) (.slice none 0 0) (.slice none 0 0) (.slice none 0 0)) (fun x hx => .inr (by simp at hx; omega)))
   unfold st8 at HG HF
   have hBy := lt_of_heap g0
   obtain ⟨⟨u0, u1, u2, u3, u4, u5, u6, u7⟩, z0, z1, z2, z3, z4, z5, z6, z7⟩ := cells8 g0
   go_wp2_with fail
   generalize (((((((y9.setCell ⟨B, 0, none⟩ (.int .i64 0)).setCell ⟨B, 1, none⟩ (.int .i64 0)).setCell ⟨B, 2, none⟩ (.string ⟨#[]⟩)).setCell ⟨B, 3, none⟩ (.int .i64 0)).setCell ⟨B, 4, none⟩ (.string ⟨#[]⟩)).setCell ⟨B, 5, none⟩ (.slice none 0 0)).setCell ⟨B, 6, none⟩ (.slice none 0 0)).setCell ⟨B, 7, none⟩ (.slice none 0 0) = Z at HG HF ⊢
   obtain ⟨⟨d0, d1, d2, d3, d4, d5, d6, d7⟩, _⟩ := cells8 HG.out
   refine bodyPost_ret (v := .tuple #[.agg #[.int .i64 0, .int .i64 0, .string ⟨#[]⟩, .int .i64 0, .string ⟨#[]⟩, .slice none 0 0, .slice none 0 0, .slice none 0 0], .int .i64 21, .int .i64 t.at']) ?_ rfl ?_
   ·simp [results, Tryz.f12, go_sem, d0, d1, d2, d3, d4, d5, d6, d7]
   ·exact ⟨0, 0, [], 0, [], [], [], [], none, 0, 0, none, 0, 0, none, 0, 0, 21, t.at', rfl, ExprAt.leaf Z _ 0 0 [] 0 [], PR.syn HL.out hr1 HT.out (.inl HOK.out), HF.out⟩
  | true =>
   rw [hok] at p2
   have HOK := Lib.hid hok
   clear hok
   have r0 := tok_f0
   have r1 := tok_f1
   go_wp2_with fail
   clear p0 p1 p2
   have q1 := heap_new x1 (.cells #[.int .i64 k1, .int .i64 a1, .string ⟨nm1.toArray⟩, .int .i64 n1, .string ⟨s1.toArray⟩, .slice A51 n51 c51, .slice A61 n61 c61, .slice A71 n71 c71] 27)
   have fb1 : Fr [] x1 (x1.alloc (.cells #[.int .i64 k1, .int .i64 a1, .string ⟨nm1.toArray⟩, .int .i64 n1, .string ⟨s1.toArray⟩, .slice A51 n51 c51, .slice A61 n61 c61, .slice A71 n71 c71] 27)) := (Fr.refl [] x1).alloc _
   generalize hY1 : x1.alloc (.cells #[.int .i64 k1, .int .i64 a1, .string ⟨nm1.toArray⟩, .int .i64 n1, .string ⟨s1.toArray⟩, .slice A51 n51 c51, .slice A61 n61 c61, .slice A71 n71 c71] 27) = x2 at *
   have hT1 := lt_of_heap q1
   generalize hTT1 : x1.heap.size = T9 at *
   have g0 := fb1.keep g0 (fun x => by cases x)
   have h2 := hst2.fr fb1
   have F := F.trans fb1
   have hx1 := hx1.keep (ok' := fun b => B < b ∧ b < x2.heap.size) (Sh.of_fr fb1 (fun b hb hlt => ⟨⟨by omega, by have := fb1.size; omega⟩, fun x => by cases x⟩))
   clear fb1 hst2
   refine (now_any P g c ts st2 t HT.out x2 h2 HE.out).mono ?_
   rintro e y8 ⟨rfl, fm⟩
   have g0 := fm.keep g0 (fun x => by cases x)
   have F := F.trans0 fm
   have h2 := h2.fr fm
   have q1 := fm.keep q1 (fun x => by cases x)
   have hx1 := hx1.keep (ok' := fun b => B < b ∧ b < y8.heap.size) (Sh.of_fr fm (fun b hb hlt => ⟨⟨hb.1, by have := fm.size; omega⟩, fun x => by cases x⟩))
   clear fm
   cases hk : (t.k != 0) with
   | true =>
    have HK : Hid (t.k ≠ 0) := Lib.hid (bne_iff_ne.1 hk)
    go_wp2_with fail
    refine (now_any P g c ts st2 t HT.out y8 h2 HE.out).mono ?_
    rintro e y9 ⟨rfl, fm⟩
    have g0 := fm.keep g0 (fun x => by cases x)
    have F := F.trans0 fm
    have h2 := h2.fr fm
    have q1 := fm.keep q1 (fun x => by cases x)
    have hx1 := hx1.keep (ok' := fun b => B < b ∧ b < y9.heap.size) (Sh.of_fr fm (fun b hb hlt => ⟨⟨hb.1, by have := fm.size; omega⟩, fun x => by cases x⟩))
    clear fm
    have HG := Lib.hid (st8_heap g0 (.int .i64 0) (.int .i64 0) (.string ⟨#[]⟩) (.int .i64 0) (.string ⟨#[]⟩) (.slice none 0 0) (.slice none 0 0) (.slice none 0 0))
    have HF := Lib.hid (F.step (st8_fr y9 B (.int .i64 0) (.int .i64 0) (.string ⟨#[]⟩) (.int .i64 0) (.string ⟨#[]⟩) (.slice none 0 0) (.slice none 0 0) (.slice none 0 0)) (fun x hx => .inr (by simp at hx; omega)))
    unfold st8 at HG HF
    have hBy := lt_of_heap g0
    obtain ⟨⟨u0, u1, u2, u3, u4, u5, u6, u7⟩, z0, z1, z2, z3, z4, z5, z6, z7⟩ := cells8 g0
    go_wp2_with fail
    generalize (((((((y9.setCell ⟨B, 0, none⟩ (.int .i64 0)).setCell ⟨B, 1, none⟩ (.int .i64 0)).setCell ⟨B, 2, none⟩ (.string ⟨#[]⟩)).setCell ⟨B, 3, none⟩ (.int .i64 0)).setCell ⟨B, 4, none⟩ (.string ⟨#[]⟩)).setCell ⟨B, 5, none⟩ (.slice none 0 0)).setCell ⟨B, 6, none⟩ (.slice none 0 0)).setCell ⟨B, 7, none⟩ (.slice none 0 0) = Z at HG HF ⊢
    obtain ⟨⟨d0, d1, d2, d3, d4, d5, d6, d7⟩, _⟩ := cells8 HG.out
    refine bodyPost_ret (v := .tuple #[.agg #[.int .i64 0, .int .i64 0, .string ⟨#[]⟩, .int .i64 0, .string ⟨#[]⟩, .slice none 0 0, .slice none 0 0, .slice none 0 0], .int .i64 21, .int .i64 t.at']) ?_ rfl ?_
    ·simp [results, Tryz.f12, go_sem, d0, d1, d2, d3, d4, d5, d6, d7]
    ·exact ⟨0, 0, [], 0, [], [], [], [], none, 0, 0, none, 0, 0, none, 0, 0, 21, t.at', rfl, ExprAt.leaf Z _ 0 0 [] 0 [], PR.syn HL.out hr1 HT.out (.inr HK.out), HF.out⟩
   | false =>
    have HK : Hid (t.k = 0) := Lib.hid (by simpa using hk)
    have hcost := hr1.cost (b := 0) (wtE .seq) HOK.out
    have hsz : szE (.mk k1 a1 nm1 n1 s1 ls1 args1 arms1) ≤ 8194 := by
     have h1 : szE (.mk k1 a1 nm1 n1 s1 ls1 args1 arms1) + 1 ≤ 0 + 2 * (st2.i - 0) := hcost
     have := h2.inb
     have := HE.out.1
     omega
    have HSZ := Lib.hid hsz
    clear hcost hsz
    obtain ⟨⟨l0, l1, l2, l3, l4, l5, l6, l7⟩, _⟩ := cells8 q1
    have hT9 := lt_of_heap q1
    have cC := Lib.hid (Count_any k1 a1 nm1 n1 s1 ls1 args1 arms1 A51 n51 c51 A61 n61 c61 A71 n71 c71 4096 (by omega) (by omega) y8 (hx1.keep (ok' := fun b => b < y8.heap.size) (Sh.of_fr (Fr.refl [] y8) (fun b hb hlt => ⟨hb.2, fun x => by cases x⟩))) (by have := HSZ.out; omega))
    go_wp2_with fail
    refine cC.out.mono ?_
    rintro e y9 ⟨rfl, fm⟩
    clear cC hk
    have g0 := fm.keep g0 (fun x => by cases x)
    have q1 := fm.keep q1 (fun x => by cases x)
    have F := F.trans0 fm
    have hx1 := hx1.keep (ok' := fun b => B < b ∧ b < y9.heap.size) (Sh.of_fr fm (fun b hb hlt => ⟨⟨hb.1, by have := fm.size; omega⟩, fun x => by cases x⟩))
    clear fm l0 l1 l2 l3 l4 l5 l6 l7 hT9
    generalize hRR : min (szE (.mk k1 a1 nm1 n1 s1 ls1 args1 arms1) : Int) (4096 + 1) = RR at *
    by_cases hm : 4096 < szE (.mk k1 a1 nm1 n1 s1 ls1 args1 arms1)
    ·have hmin : RR = 4097 := by omega
     have HM := Lib.hid hm
     clear hm hRR
     subst hmin
     have HG := Lib.hid (st8_heap g0 (.int .i64 0) (.int .i64 0) (.string ⟨#[]⟩) (.int .i64 0) (.string ⟨#[]⟩) (.slice none 0 0) (.slice none 0 0) (.slice none 0 0))
     have HF := Lib.hid (F.step (st8_fr y9 B (.int .i64 0) (.int .i64 0) (.string ⟨#[]⟩) (.int .i64 0) (.string ⟨#[]⟩) (.slice none 0 0) (.slice none 0 0) (.slice none 0 0)) (fun x hx => .inr (by simp at hx; omega)))
     unfold st8 at HG HF
     have hBy := lt_of_heap g0
     obtain ⟨⟨u0, u1, u2, u3, u4, u5, u6, u7⟩, z0, z1, z2, z3, z4, z5, z6, z7⟩ := cells8 g0
     go_wp2_with fail
     generalize (((((((y9.setCell ⟨B, 0, none⟩ (.int .i64 0)).setCell ⟨B, 1, none⟩ (.int .i64 0)).setCell ⟨B, 2, none⟩ (.string ⟨#[]⟩)).setCell ⟨B, 3, none⟩ (.int .i64 0)).setCell ⟨B, 4, none⟩ (.string ⟨#[]⟩)).setCell ⟨B, 5, none⟩ (.slice none 0 0)).setCell ⟨B, 6, none⟩ (.slice none 0 0)).setCell ⟨B, 7, none⟩ (.slice none 0 0) = Z at HG HF ⊢
     obtain ⟨⟨d0, d1, d2, d3, d4, d5, d6, d7⟩, _⟩ := cells8 HG.out
     refine bodyPost_ret (v := .tuple #[.agg #[.int .i64 0, .int .i64 0, .string ⟨#[]⟩, .int .i64 0, .string ⟨#[]⟩, .slice none 0 0, .slice none 0 0, .slice none 0 0], .int .i64 3, .int .i64 0]) ?_ rfl ?_
     ·simp [results, Tryz.f12, go_sem, d0, d1, d2, d3, d4, d5, d6, d7]
     ·exact ⟨0, 0, [], 0, [], [], [], [], none, 0, 0, none, 0, 0, none, 0, 0, 3, 0, rfl, ExprAt.leaf Z _ 0 0 [] 0 [], PR.many HL.out hr1 HT.out HOK.out HK.out HM.out, HF.out⟩
    ·have HM : Hid (szE (.mk k1 a1 nm1 n1 s1 ls1 args1 arms1) ≤ 4096) := Lib.hid (by omega)
     have hle : RR ≤ 4096 := by omega
     clear hm hRR
     obtain ⟨⟨l0, l1, l2, l3, l4, l5, l6, l7⟩, _⟩ := cells8 q1
     have hT9 := lt_of_heap q1
     have cD := Lib.hid (Deep_any k1 a1 nm1 n1 s1 ls1 args1 arms1 A51 n51 c51 A61 n61 c61 A71 n71 c71 200 y9 (hx1.keep (ok' := fun b => b < y9.heap.size) (Sh.of_fr (Fr.refl [] y9) (fun b hb hlt => ⟨hb.2, fun x => by cases x⟩))) (by have := HSZ.out; omega))
     cases hd : deepOf 200 (.mk k1 a1 nm1 n1 s1 ls1 args1 arms1) with
     | some p =>
      have HDP := Lib.hid hd
      rw [hd] at cD
      clear hd
      go_wp2_with fail
      refine cD.out.mono ?_
      rintro e y10 ⟨rfl, fm⟩
      clear cD hle l0 l1 l2 l3 l4 l5 l6 l7 hT9
      have g0 := fm.keep g0 (fun x => by cases x)
      have F := F.trans0 fm
      have HG := Lib.hid (st8_heap g0 (.int .i64 0) (.int .i64 0) (.string ⟨#[]⟩) (.int .i64 0) (.string ⟨#[]⟩) (.slice none 0 0) (.slice none 0 0) (.slice none 0 0))
      have HF := Lib.hid (F.step (st8_fr y10 B (.int .i64 0) (.int .i64 0) (.string ⟨#[]⟩) (.int .i64 0) (.string ⟨#[]⟩) (.slice none 0 0) (.slice none 0 0) (.slice none 0 0)) (fun x hx => .inr (by simp at hx; omega)))
      unfold st8 at HG HF
      have hBy := lt_of_heap g0
      obtain ⟨⟨u0, u1, u2, u3, u4, u5, u6, u7⟩, z0, z1, z2, z3, z4, z5, z6, z7⟩ := cells8 g0
      go_wp2_with fail
      generalize (((((((y10.setCell ⟨B, 0, none⟩ (.int .i64 0)).setCell ⟨B, 1, none⟩ (.int .i64 0)).setCell ⟨B, 2, none⟩ (.string ⟨#[]⟩)).setCell ⟨B, 3, none⟩ (.int .i64 0)).setCell ⟨B, 4, none⟩ (.string ⟨#[]⟩)).setCell ⟨B, 5, none⟩ (.slice none 0 0)).setCell ⟨B, 6, none⟩ (.slice none 0 0)).setCell ⟨B, 7, none⟩ (.slice none 0 0) = Z at HG HF ⊢
      obtain ⟨⟨d0, d1, d2, d3, d4, d5, d6, d7⟩, _⟩ := cells8 HG.out
      refine bodyPost_ret (v := .tuple #[.agg #[.int .i64 0, .int .i64 0, .string ⟨#[]⟩, .int .i64 0, .string ⟨#[]⟩, .slice none 0 0, .slice none 0 0, .slice none 0 0], .int .i64 22, .int .i64 p.1]) ?_ rfl ?_
      ·simp [results, Tryz.f12, go_sem, d0, d1, d2, d3, d4, d5, d6, d7]
      ·exact ⟨0, 0, [], 0, [], [], [], [], none, 0, 0, none, 0, 0, none, 0, 0, 22, p.1, rfl, ExprAt.leaf Z _ 0 0 [] 0 [], PR.deep HL.out hr1 HT.out HOK.out HK.out HM.out HDP.out, HF.out⟩
     | none =>
      have HDP := Lib.hid hd
      rw [hd] at cD
      clear hd
      go_wp2_with fail
      refine cD.out.mono ?_
      rintro e y10 ⟨rfl, fm⟩
      clear cD hle l0 l1 l2 l3 l4 l5 l6 l7 hT9
      have g0 := fm.keep g0 (fun x => by cases x)
      have q1 := fm.keep q1 (fun x => by cases x)
      have F := F.trans0 fm
      have hx1 := hx1.keep (ok' := fun b => B < b) (Sh.of_fr fm (fun b hb hlt => ⟨hb.1, fun x => by cases x⟩))
      have HG := Lib.hid (st8_heap g0 (.int .i64 k1) (.int .i64 a1) (.string ⟨nm1.toArray⟩) (.int .i64 n1) (.string ⟨s1.toArray⟩) (.slice A51 n51 c51) (.slice A61 n61 c61) (.slice A71 n71 c71))
      have HF := Lib.hid (F.step (st8_fr y10 B (.int .i64 k1) (.int .i64 a1) (.string ⟨nm1.toArray⟩) (.int .i64 n1) (.string ⟨s1.toArray⟩) (.slice A51 n51 c51) (.slice A61 n61 c61) (.slice A71 n71 c71)) (fun x hx => .inr (by simp at hx; omega)))
      have HX : Hid (ExprAt (st8 y10 B (.int .i64 k1) (.int .i64 a1) (.string ⟨nm1.toArray⟩) (.int .i64 n1) (.string ⟨s1.toArray⟩) (.slice A51 n51 c51) (.slice A61 n61 c61) (.slice A71 n71 c71)) (fun b => w.heap.size ≤ b) (.mk k1 a1 nm1 n1 s1 ls1 args1 arms1) [.int .i64 k1, .int .i64 a1, .string ⟨nm1.toArray⟩, .int .i64 n1, .string ⟨s1.toArray⟩, .slice A51 n51 c51, .slice A61 n61 c61, .slice A71 n71 c71]) := Lib.hid (hx1.keep (Sh.of_fr (st8_fr y10 B (.int .i64 k1) (.int .i64 a1) (.string ⟨nm1.toArray⟩) (.int .i64 n1) (.string ⟨s1.toArray⟩) (.slice A51 n51 c51) (.slice A61 n61 c61) (.slice A71 n71 c71)) (fun b hb hlt => ⟨by omega, by simp; omega⟩)))
      unfold st8 at HG HF HX
      have hBy := lt_of_heap g0
      have hTy := lt_of_heap q1
      obtain ⟨⟨u0, u1, u2, u3, u4, u5, u6, u7⟩, z0, z1, z2, z3, z4, z5, z6, z7⟩ := cells8 g0
      obtain ⟨⟨l0, l1, l2, l3, l4, l5, l6, l7⟩, _⟩ := cells8 q1
      go_wp2_with fail
      generalize (((((((y10.setCell ⟨B, 0, none⟩ (.int .i64 k1)).setCell ⟨B, 1, none⟩ (.int .i64 a1)).setCell ⟨B, 2, none⟩ (.string ⟨nm1.toArray⟩)).setCell ⟨B, 3, none⟩ (.int .i64 n1)).setCell ⟨B, 4, none⟩ (.string ⟨s1.toArray⟩)).setCell ⟨B, 5, none⟩ (.slice A51 n51 c51)).setCell ⟨B, 6, none⟩ (.slice A61 n61 c61)).setCell ⟨B, 7, none⟩ (.slice A71 n71 c71) = Z at HG HF HX ⊢
      obtain ⟨⟨d0, d1, d2, d3, d4, d5, d6, d7⟩, _⟩ := cells8 HG.out
      refine bodyPost_ret (v := .tuple #[.agg #[.int .i64 k1, .int .i64 a1, .string ⟨nm1.toArray⟩, .int .i64 n1, .string ⟨s1.toArray⟩, .slice A51 n51 c51, .slice A61 n61 c61, .slice A71 n71 c71], .int .i64 0, .int .i64 0]) ?_ rfl ?_
      ·simp [results, Tryz.f12, go_sem, d0, d1, d2, d3, d4, d5, d6, d7]
      ·exact ⟨_, _, _, _, _, _, _, _, _, _, _, _, _, _, _, _, _, 0, 0, rfl, HX.out, PR.ok HL.out hr1 HT.out HOK.out HK.out HM.out HDP.out, HF.out⟩
end Go.Proofs.YtpjkfeehgookkaaGreatDoor
namespace Go.Proofs.YtpjkfeehgookkaaGreatDoor
open Go.RowKit
attribute [local go_sem ↓] Go.wp_at_zero Go.wp_at_succ
theorem PR.det {s : List UInt8} {x x' : ExprT} {er er' a a' : Int} (h : PR s x er a) (h' : PR s x' er' a') : x' = x ∧ er' = er ∧ a' = a := by
 have key : ∀ {ts ts' : List Tok} {x x' : ExprT} {st st' : St} {t t' : Tok}, lexOf s = .ok ts → Run ts (body .seq) ⟨0, true⟩ (.e x) st → ts[st.i]? = some t → lexOf s = .ok ts' → Run ts' (body .seq) ⟨0, true⟩ (.e x') st' → ts'[st'.i]? = some t' → x' = x ∧ st' = st ∧ t' = t := by
  intro ts ts' x x' st st' t t' hl hr ht hl' hr' ht'
  rw [hl] at hl'
  cases hl'
  obtain ⟨e1, e2⟩ := hr.det hr'
  cases e1
  cases e2
  rw [ht] at ht'
  cases ht'
  exact ⟨rfl, rfl, rfl⟩
 have bad : ∀ {st : St} {t : Tok}, (st.ok = false ∨ t.k ≠ 0) → st.ok = true → t.k = 0 → False := fun h h1 h2 => h.elim (fun h => by rw [h] at h1; cases h1) (fun h => h h2)
 cases h with
 | lexErr h =>
  cases h' with
  | lexErr h' => rw [h] at h'; cases h'; exact ⟨rfl, rfl, rfl⟩
  | syn hl => rw [h] at hl; cases hl
  | many hl => rw [h] at hl; cases hl
  | deep hl => rw [h] at hl; cases hl
  | ok hl => rw [h] at hl; cases hl
 | syn hl hr ht hbad =>
  cases h' with
  | lexErr h' => rw [hl] at h'; cases h'
  | syn hl' hr' ht' hbad' => obtain ⟨_, _, rfl⟩ := key hl hr ht hl' hr' ht'; exact ⟨rfl, rfl, rfl⟩
  | many hl' hr' ht' hok' hend' => obtain ⟨_, rfl, rfl⟩ := key hl hr ht hl' hr' ht'; exact (bad hbad hok' hend').elim
  | deep hl' hr' ht' hok' hend' => obtain ⟨_, rfl, rfl⟩ := key hl hr ht hl' hr' ht'; exact (bad hbad hok' hend').elim
  | ok hl' hr' ht' hok' hend' => obtain ⟨_, rfl, rfl⟩ := key hl hr ht hl' hr' ht'; exact (bad hbad hok' hend').elim
 | many hl hr ht hok hend hm =>
  cases h' with
  | lexErr h' => rw [hl] at h'; cases h'
  | syn hl' hr' ht' hbad' => obtain ⟨_, rfl, rfl⟩ := key hl hr ht hl' hr' ht'; exact (bad hbad' hok hend).elim
  | many hl' hr' ht' hok' hend' hm' => exact ⟨rfl, rfl, rfl⟩
  | deep hl' hr' ht' hok' hend' hm' => obtain ⟨rfl, _, _⟩ := key hl hr ht hl' hr' ht'; omega
  | ok hl' hr' ht' hok' hend' hm' => obtain ⟨rfl, _, _⟩ := key hl hr ht hl' hr' ht'; omega
 | deep hl hr ht hok hend hm hd =>
  cases h' with
  | lexErr h' => rw [hl] at h'; cases h'
  | syn hl' hr' ht' hbad' => obtain ⟨_, rfl, rfl⟩ := key hl hr ht hl' hr' ht'; exact (bad hbad' hok hend).elim
  | many hl' hr' ht' hok' hend' hm' => obtain ⟨rfl, _, _⟩ := key hl hr ht hl' hr' ht'; omega
  | deep hl' hr' ht' hok' hend' hm' hd' => obtain ⟨rfl, _, _⟩ := key hl hr ht hl' hr' ht'; rw [hd] at hd'; cases hd'; exact ⟨rfl, rfl, rfl⟩
  | ok hl' hr' ht' hok' hend' hm' hd' => obtain ⟨rfl, _, _⟩ := key hl hr ht hl' hr' ht'; rw [hd] at hd'; cases hd'
 | ok hl hr ht hok hend hm hd =>
  cases h' with
  | lexErr h' => rw [hl] at h'; cases h'
  | syn hl' hr' ht' hbad' => obtain ⟨_, rfl, rfl⟩ := key hl hr ht hl' hr' ht'; exact (bad hbad' hok hend).elim
  | many hl' hr' ht' hok' hend' hm' => obtain ⟨rfl, _, _⟩ := key hl hr ht hl' hr' ht'; omega
  | deep hl' hr' ht' hok' hend' hm' hd' => obtain ⟨rfl, _, _⟩ := key hl hr ht hl' hr' ht'; rw [hd] at hd'; cases hd'
  | ok hl' hr' ht' hok' hend' hm' hd' => obtain ⟨rfl, _, _⟩ := key hl hr ht hl' hr' ht'; exact ⟨rfl, rfl, rfl⟩
def awS : List UInt8 := [97, 32, 45, 32, 98, 32, 45, 32, 99, 59, 32, 100]
def awL : List Tok := [⟨1, 0, [97], 0⟩, ⟨7, 2, [45], 0⟩, ⟨1, 4, [98], 0⟩, ⟨7, 6, [45], 0⟩, ⟨1, 8, [99], 0⟩, ⟨7, 9, [59], 0⟩, ⟨1, 11, [100], 0⟩, ⟨0, 12, [], 0⟩]
theorem awL_eq : lexOf awS = .ok awL := by rfl
def varE (a : Int) (nm : List UInt8) : ExprT := .mk 1 a nm 0 [] [] [] []
def awX : ExprT := nodeE 20 9 [opE 2 6 [opE 2 2 [varE 0 [97], varE 4 [98]], varE 8 [99]], varE 11 [100]]
theorem awRun : Run awL (body .seq) ⟨0, true⟩ (.e awX) ⟨7, true⟩ := runF_run 200 _ _ _ _ (by rfl)
theorem awPR : PR awS awX 0 0 := .ok awL_eq awRun rfl rfl rfl (by decide) (by rfl)
def awS2 : List UInt8 := [97, 32, 61, 32, 98, 32, 61, 32, 99]
def awL2 : List Tok := [⟨1, 0, [97], 0⟩, ⟨7, 2, [61], 0⟩, ⟨1, 4, [98], 0⟩, ⟨7, 6, [61], 0⟩, ⟨1, 8, [99], 0⟩, ⟨0, 9, [], 0⟩]
theorem awL2_eq : lexOf awS2 = .ok awL2 := by rfl
theorem awRun2 : Run awL2 (body .seq) ⟨0, true⟩ (.e (opE 7 2 [varE 0 [97], varE 4 [98]])) ⟨3, true⟩ := runF_run 200 _ _ _ _ (by rfl)
theorem awPR2 : PR awS2 .zero 21 6 := .syn awL2_eq awRun2 rfl (.inr (by decide))
end Go.Proofs.YtpjkfeehgookkaaGreatDoor
namespace Go.Proofs.YtpjkfeehgookkaaGreatDoor
open Go.RowKit
attribute [local go_sem ↓] Go.wp_at_zero Go.wp_at_succ
set_option maxHeartbeats 4000000 in
set_option maxRecDepth 100000 in
theorem awake6_any (w : World) (hE : EnvL w) :
  Calls Tryz.prog 11 #[] w fun e w' => e = .returned (.bool true) ∧ Fr [] w w' := by
 have p1 := fun w hE => Lib.hid (Parse_any ⟨#[97, 32, 45, 32, 98, 32, 45, 32, 99, 59, 32, 100]⟩ (by decide) w hE)
 have p2 := fun w hE => Lib.hid (Parse_any ⟨#[97, 32, 61, 32, 98, 32, 61, 32, 99]⟩ (by decide) w hE)
 have HE := Lib.hid hE
 clear hE
 go_enter Tryz.func11, Tryz.ntmps11
 go_wp2_with fail
 refine (p1 _ HE.out).out.mono ?_
 rintro e w1 ⟨k, a, nm, n, s', ls, args, arms, A5, n5, c5, A6, n6, c6, A7, n7, c7, er, at_, rfl, hx, hpr, f1⟩
 obtain ⟨hX, rfl, rfl⟩ := PR.det awPR hpr
 unfold awX nodeE at hX
 cases hX
 clear hpr
 have hx0 := hx
 cases hx0 with
 | mk c5' c6' cp ce h5 e5 h6 e6 h7 e7 e8 =>
 have e0 := e6 0 _ rfl
 have hsl : ∃ g og c, A6 = some ⟨g, og, none⟩ ∧ n6 = 2 ∧ c6 = c ∧ g < w1.heap.size ∧ w1.cell? ⟨g, og + 3, none⟩ = some (.int .i64 2) := by
  rcases h6 with ⟨_, _, _, h⟩ | ⟨g, og, c, hv, hg, hgs, hcs⟩
  ·cases h
  ·cases hv
   obtain ⟨hl0, hc0⟩ := hcs 0 (by simp)
   generalize c6' 0 = C at *
   unfold opE at e0
   cases e0
   have := hc0 3 _ rfl
   exact ⟨g, og, _, rfl, rfl, rfl, hgs, by simpa using this⟩
 obtain ⟨g, og, _, rfl, rfl, rfl, hgs, x3⟩ := hsl
 clear h5 e5 h6 e6 h7 e7 e8 e0
 have q1 := heap_new w1 (.cells #[.int .i64 20, .int .i64 9, .string ⟨#[]⟩, .int .i64 0, .string ⟨#[]⟩, .slice A5 n5 c5, .slice (some ⟨g, og, none⟩) 2 c6, .slice A7 n7 c7] 27)
 have fb : Fr [] w1 (w1.alloc (.cells #[.int .i64 20, .int .i64 9, .string ⟨#[]⟩, .int .i64 0, .string ⟨#[]⟩, .slice A5 n5 c5, .slice (some ⟨g, og, none⟩) 2 c6, .slice A7 n7 c7] 27)) := (Fr.refl [] w1).alloc _
 go_wp2_with fail
 have HX := Lib.hid (hx.keep (ok' := fun b => b < (w1.alloc (.cells #[.int .i64 20, .int .i64 9, .string ⟨#[]⟩, .int .i64 0, .string ⟨#[]⟩, .slice A5 n5 c5, .slice (some ⟨g, og, none⟩) 2 c6, .slice A7 n7 c7] 27)).heap.size) (Sh.of_fr fb (fun b hb hlt => ⟨by simp; omega, fun x => by cases x⟩)))
 have x3 := (fb.cell (p := ⟨g, og + 3, none⟩) hgs (fun x => by cases x)).trans x3
 have hgs2 : g < (w1.alloc (.cells #[.int .i64 20, .int .i64 9, .string ⟨#[]⟩, .int .i64 0, .string ⟨#[]⟩, .slice A5 n5 c5, .slice (some ⟨g, og, none⟩) 2 c6, .slice A7 n7 c7] 27)).heap.size := by simp; omega
 have f2 := f1.trans fb
 clear hx fb f1 hgs
 have hT := lt_of_heap q1
 generalize w1.alloc (.cells #[.int .i64 20, .int .i64 9, .string ⟨#[]⟩, .int .i64 0, .string ⟨#[]⟩, .slice A5 n5 c5, .slice (some ⟨g, og, none⟩) 2 c6, .slice A7 n7 c7] 27) = w2 at *
 generalize w1.heap.size = T1 at *
 have hgs := hgs2
 clear hgs2
 refine (p2 _ (HE.out.fr f2)).out.mono ?_
 rintro e w3 ⟨k, a, nm, n, s', ls, args, arms, B5, m5, d5, B6, m6, d6, B7, m7, d7, er, at_, rfl, _, hpr, f3⟩
 obtain ⟨hX, rfl, rfl⟩ := PR.det awPR2 hpr
 unfold ExprT.zero at hX
 cases hX
 clear hpr p1 p2
 have q1 := f3.keep q1 (fun x => by cases x)
 have x3 := (f3.cell (p := ⟨g, og + 3, none⟩) hgs (fun x => by cases x)).trans x3
 have hgs : g < w3.heap.size := Nat.lt_of_lt_of_le hgs f3.size
 have HX := Lib.hid (HX.out.keep (ok' := fun b => b < w3.heap.size) (Sh.of_fr f3 (fun b hb hlt => ⟨by have := f3.size; omega, fun x => by cases x⟩)))
 have f4 := f2.trans f3
 have hT3 := lt_of_heap q1
 obtain ⟨⟨l0, l1, l2, l3, l4, l5, l6, l7⟩, _⟩ := cells8 q1
 have fb : Fr [] w3 (w3.alloc (.cells #[.int .i64 0, .int .i64 0, .string ⟨#[]⟩, .int .i64 0, .string ⟨#[]⟩, .slice B5 m5 d5, .slice B6 m6 d6, .slice B7 m7 d7] 27)) := (Fr.refl [] w3).alloc _
 have cC := Lib.hid (Count_any 20 9 [] 0 [] [] _ [] _ _ _ _ _ _ _ _ _ 99 (by omega) (by omega) (w3.alloc (.cells #[.int .i64 0, .int .i64 0, .string ⟨#[]⟩, .int .i64 0, .string ⟨#[]⟩, .slice B5 m5 d5, .slice B6 m6 d6, .slice B7 m7 d7] 27)) (HX.out.keep (ok' := fun b => b < (w3.alloc (.cells #[.int .i64 0, .int .i64 0, .string ⟨#[]⟩, .int .i64 0, .string ⟨#[]⟩, .slice B5 m5 d5, .slice B6 m6 d6, .slice B7 m7 d7] 27)).heap.size) (Sh.of_fr fb (fun b hb hlt => ⟨by simp; omega, fun x => by cases x⟩))) (by decide))
 have e1 : min ((szE (.mk 20 9 [] 0 [] [] [opE 2 6 [opE 2 2 [varE 0 [97], varE 4 [98]], varE 8 [99]], varE 11 [100]] []) : Nat) : Int) (99 + 1) = 7 := by rfl
 rw [e1] at cC
 clear e1
 go_wp2_with fail
 refine cC.out.mono ?_
 rintro e w5 ⟨rfl, f5⟩
 clear cC l0 l1 l2 l3 l4 l5 l6 l7
 have f5 := fb.trans f5
 have q1 := f5.keep q1 (fun x => by cases x)
 have x3 := (f5.cell (p := ⟨g, og + 3, none⟩) hgs (fun x => by cases x)).trans x3
 have hgs : g < w5.heap.size := Nat.lt_of_lt_of_le hgs f5.size
 have f6 := f4.trans f5
 have hT5 := lt_of_heap q1
 obtain ⟨⟨l0, l1, l2, l3, l4, l5, l6, l7⟩, _⟩ := cells8 q1
 have cD := Lib.hid (Deep_any 20 9 [] 0 [] [] _ [] _ _ _ _ _ _ _ _ _ 2 w5 (HX.out.keep (ok' := fun b => b < w5.heap.size) (Sh.of_fr f5 (fun b hb hlt => ⟨by have := f5.size; omega, fun x => by cases x⟩))) (by decide))
 have e2 : deepOf 2 (.mk 20 9 [] 0 [] [] [opE 2 6 [opE 2 2 [varE 0 [97], varE 4 [98]], varE 8 [99]], varE 11 [100]] []) = some (2, 3) := by rfl
 rw [e2] at cD
 clear e2 fb
 go_wp2_with fail
 refine cD.out.mono ?_
 rintro e w6 ⟨rfl, f7⟩
 clear cD l0 l1 l2 l3 l4 l5 l6 l7
 have q1 := f7.keep q1 (fun x => by cases x)
 have x3 := (f7.cell (p := ⟨g, og + 3, none⟩) hgs (fun x => by cases x)).trans x3
 have hT6 := lt_of_heap q1
 have hgs : g < w6.heap.size := Nat.lt_of_lt_of_le hgs f7.size
 obtain ⟨⟨l0, l1, l2, l3, l4, l5, l6, l7⟩, _⟩ := cells8 q1
 go_wp2_with fail
 go_ret
 exact ⟨rfl, f6.trans f7⟩
end Go.Proofs.YtpjkfeehgookkaaGreatDoor
namespace Go.Proofs.YtpjkfeehgookkaaGreatDoor
open Go.ChangeShapes Go.WideShapes Go.ChangeAt Go.ChangeMaps Go.RowKit
theorem own : ownKnob Tryz.prog.godebug = none := by kernel_rfl
theorem i64_wf {n : Int} (h : (Lit.int .i64 n).wf = true) : -9223372036854775808 ≤ n ∧ n ≤ 9223372036854775807 := by
 simp only [Lit.wf, Bool.and_eq_true, decide_eq_true_eq] at h
 exact ⟨h.1, h.2⟩
theorem u64_wf {n : Int} (h : (Lit.int .u64 n).wf = true) : 0 ≤ n ∧ n < 18446744073709551616 := by
 simp only [Lit.wf, Bool.and_eq_true, decide_eq_true_eq] at h
 have h1 : n ≤ 18446744073709551615 := h.2
 exact ⟨h.1, by omega⟩
theorem u8_wf {n : Int} (h : (Lit.int .u8 n).wf = true) : 0 ≤ n ∧ n ≤ 255 := by
 simp only [Lit.wf, Bool.and_eq_true, decide_eq_true_eq] at h
 exact ⟨h.1, h.2⟩
theorem star : "*" ++ "errors.errorString" = "*errors.errorString" := by decide
theorem rowErr (u : TypeId) (h : Tryz.prog.typeName? 3 u = some "*errors.errorString") : u = 157 :=
 typeName_ptr_named (nm := "errors.errorString") (by rw [star]; kernel_rfl) (by kernel_rfl) (by decide) u (by rw [star]; exact h)
theorem gTabType : (Tryz.prog.globals[5]?).map (·.type) = some 167 := by kernel_rfl
theorem gRngType : (Tryz.prog.globals[2]?).map (·.type) = some 96 := by kernel_rfl
theorem cellsTab : Tryz.prog.cellsOf 167 = 20 := by kernel_rfl
theorem cellsU64 : Tryz.prog.cellsOf 132 = 1 := by kernel_rfl
theorem cellsErr : Tryz.prog.cellsOf 159 = 1 := by kernel_rfl
theorem cellsStr : Tryz.prog.cellsOf 9 = 1 := by kernel_rfl
theorem vars_in {W : World} (h : W.ShapedOpen Tryz.prog) : Tryz.prog.globals.size ≤ W.heap.size := by
 have hb : (((begin Tryz.prog (fun _ _ => 0) default).world.heap[Tryz.prog.globals.size - 1]?).bind Obj.row?).isSome = true := by kernel_rfl
 obtain ⟨⟨z, t⟩, hz⟩ := Option.isSome_iff_exists.1 hb
 have hlt : Tryz.prog.globals.size - 1 < Tryz.prog.globals.size := of_decide_eq_true (by kernel_rfl)
 obtain ⟨cs, hcs, _⟩ := h.1 _ z t hlt hz
 have := (Array.getElem?_eq_some_iff.1 hcs).1
 omega
theorem env_of {W : World} (h : laidMetH Tryz.prog Rows.parseReadsRow.laid W) (hs : W.ShapedOpen Tryz.prog) : EnvL W := by
 rw [MakeChecks.laidMetH_plain _ _ _ (by kernel_rfl)] at h
 have h2 := h.tail.tail
 have h4 := h2.tail.tail
 obtain ⟨a, s, hv, _⟩ := laid_sentinel h4 gRng gRngType Tryz.underlying96 rowErr Tryz.underlying157 Tryz.underlying159 rfl rfl Tryz.underlying9 cellsErr cellsStr
 exact ⟨⟨vars_in hs, Lib.tabIs_of_head gTab gTabType Tryz.underlying167 Tryz.underlying132 cellsU64 cellsTab h2, _, _, hv⟩, Go.Proofs.cell_of_shapedOpen_int (t := 3) (zero := #[.int .i64 0]) hs nMax (by kernel_rfl) rfl (by kernel_rfl) (by kernel_rfl) Tryz.underlying3⟩
noncomputable def doorW (os : Os) : World :=
 { World.doorLaid Tryz.prog 72 os with heap := (World.doorLaid Tryz.prog 72 os).heap.modify 3 fun
   | .cells _ t frozen => .cells (Lib.firstTab.map fun z => Value.int .u8 z).toArray t frozen
   | o => o }
theorem laid_met (os : Os) (args : Array Value) : laidMet Tryz.prog Rows.parseReadsRow.laid ((doorW os).forCall (fun _ _ => 0) ⟨#[], args, []⟩).memory :=
 laidMet_of_run' 8 (by kernel_rfl) (by kernel_rfl)
end Go.Proofs.YtpjkfeehgookkaaGreatDoor
