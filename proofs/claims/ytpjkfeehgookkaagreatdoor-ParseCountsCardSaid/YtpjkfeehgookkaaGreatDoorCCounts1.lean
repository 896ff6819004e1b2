/- How many parts an expression has, and which one is too deep first: proved for every input. -/
import Derived.Lib.ConvBytes
import Derived.Laws.AppendOwnNone
import Derived.SizedLaws
import Derived.Carry
import Derived.Deep.Slices
import Derived.ChangeArms
import Derived.KernelRfl
import Derived.Test.YtpjkfeehgookkaaGreatDoorCb6
namespace Go.Proofs.YtpjkfeehgookkaaGreatDoor
open Go.RowKit
theorem BI.frame {w : World} {b : Nat} {r : Option (Nat × Obj)} {l : List UInt8} {wr : World} (h : BI w b r l wr) : Fr [] w wr := by
 obtain ⟨own, _, _, _, hf, _⟩ := h
 exact hf
end Go.Proofs.YtpjkfeehgookkaaGreatDoor
namespace Go.Proofs.YtpjkfeehgookkaaGreatDoor
open Go.RowKit
theorem partsPs_same : ∀ (l l' : List PatT) (d : Nat), l.length = l'.length → (∀ (i : Nat) (x y : PatT), l[i]? = some x → l'[i]? = some y → ∀ d, (partsP x d).map Prod.snd = (partsP y d).map Prod.snd) → (partsPs l d).map Prod.snd = (partsPs l' d).map Prod.snd
 | [], [], d, _, _ => rfl
 | [], _ :: _, d, h, _ => by simp at h
 | _ :: _, [], d, h, _ => by simp at h
 | x :: l, y :: l', d, hl, h => by
  rw [partsPs, partsPs, List.map_append, List.map_append, h 0 x y rfl rfl d, partsPs_same l l' d (by simpa using hl) (fun i x y hx hy => h (i + 1) x y (by simpa using hx) (by simpa using hy))]
theorem partsEs_same : ∀ (l l' : List ExprT) (d : Nat), l.length = l'.length → (∀ (i : Nat) (x y : ExprT), l[i]? = some x → l'[i]? = some y → ∀ d, (partsE x d).map Prod.snd = (partsE y d).map Prod.snd) → (partsEs l d).map Prod.snd = (partsEs l' d).map Prod.snd
 | [], [], d, _, _ => rfl
 | [], _ :: _, d, h, _ => by simp at h
 | _ :: _, [], d, h, _ => by simp at h
 | x :: l, y :: l', d, hl, h => by
  rw [partsEs, partsEs, List.map_append, List.map_append, h 0 x y rfl rfl d, partsEs_same l l' d (by simpa using hl) (fun i x y hx hy => h (i + 1) x y (by simpa using hx) (by simpa using hy))]
theorem partsAs_same : ∀ (l l' : List (PatT × ExprT)) (d : Nat), l.length = l'.length → (∀ (i : Nat) (p p' : PatT) (x y : ExprT), l[i]? = some (p, x) → l'[i]? = some (p', y) → ∀ d, (partsP p d).map Prod.snd = (partsP p' d).map Prod.snd) →
  (∀ (i : Nat) (p p' : PatT) (x y : ExprT), l[i]? = some (p, x) → l'[i]? = some (p', y) → ∀ d, (partsE x d).map Prod.snd = (partsE y d).map Prod.snd) → (partsAs l d).map Prod.snd = (partsAs l' d).map Prod.snd
 | [], [], d, _, _, _ => rfl
 | [], _ :: _, d, h, _, _ => by simp at h
 | _ :: _, [], d, h, _, _ => by simp at h
 | (p, x) :: l, (p', y) :: l', d, hl, hp, h => by
  rw [partsAs, partsAs, List.map_append, List.map_append, partsAs_same l l' d (by simpa using hl) (fun i p p' x y hx hy => hp (i + 1) p p' x y (by simpa using hx) (by simpa using hy)) (fun i p p' x y hx hy => h (i + 1) p p' x y (by simpa using hx) (by simpa using hy)),
   partsA, partsA, List.map_append, List.map_append, hp 0 p p' x y rfl rfl d, h 0 p p' x y rfl rfl d]
theorem SameP.parts {x y : PatT} (h : SameP x y) : ∀ d, (partsP x d).map Prod.snd = (partsP y d).map Prod.snd := by
 induction h with
 | mk hl h ih => intro d; rw [partsP_mk, partsP_mk, List.map_cons, List.map_cons, partsPs_same _ _ (d + 1) hl ih]
theorem SameE.parts {x y : ExprT} (h : SameE x y) : ∀ d, (partsE x d).map Prod.snd = (partsE y d).map Prod.snd := by
 induction h with
 | mk hl h hl2 hp hx ih ih2 =>
  intro d
  rw [partsE_mk, partsE_mk, List.map_cons, List.map_cons, List.map_append, List.map_append, partsEs_same _ _ (d + 1) hl ih, partsAs_same _ _ (d + 1) hl2 (fun i p p' x y h1 h2 => (hp i p p' x y h1 h2).parts) ih2]
theorem SameE.deep {x y : ExprT} (h : SameE x y) (m : Int) : deepOf m x = none ↔ deepOf m y = none := by
 have key : ∀ x, deepOf m x = none ↔ ∀ d ∈ (partsE x 1).map Prod.snd, ¬ m < (d : Int) := fun x => by
  unfold deepOf
  rw [List.find?_eq_none]
  simp
  exact ⟨fun h d a => h a d, fun h a d => h d a⟩
 rw [key, key, h.parts 1]
end Go.Proofs.YtpjkfeehgookkaaGreatDoor
namespace Go.Proofs.YtpjkfeehgookkaaGreatDoor
open Go.RowKit
theorem ExprAt.fr {w w' : World} {x : ExprT} {cs : List Value} (h : ExprAt w (fun b => b < w.heap.size) x cs) (f : Fr [] w w') : ExprAt w' (fun b => b < w'.heap.size) x cs :=
 h.keep (Sh.of_fr f (fun b hb _ => ⟨by have := f.size; omega, fun x => by cases x⟩))
end Go.Proofs.YtpjkfeehgookkaaGreatDoor
namespace Go.Proofs.YtpjkfeehgookkaaGreatDoor
open Go.RowKit
attribute [local go_sem ↓] Go.wp_at_zero Go.wp_at_succ
def ptC (p : Int × Nat) : List Value := [.int .i64 p.1, .int .i64 (p.2 : Int)]
def ptsC (l : List (Int × Nat)) : List Value := l.flatMap ptC
theorem ptsC_app (l m : List (Int × Nat)) : ptsC (l ++ m) = ptsC l ++ ptsC m := by simp [ptsC]
theorem ptsC_len (l : List (Int × Nat)) : (ptsC l).length = l.length * 2 := by
 induction l with
 | nil => rfl
 | cons x l ih => rw [show ptsC (x :: l) = ptC x ++ ptsC l from rfl, List.length_append, ih, List.length_cons, show (ptC x).length = 2 from rfl]; omega
theorem ptsC_one (l : List (Int × Nat)) : ∀ u ∈ ptsC l, u.oneCell' = true := by
 intro u hu
 obtain ⟨p, _, hp⟩ := List.mem_flatMap.1 hu
 simp [ptC] at hp
 rcases hp with rfl | rfl <;> rfl
def OwnPt (B : Nat) (v : Value) (l : List (Int × Nat)) (w : World) : Prop := w.ownsRow 0 36 2 v l.length (ptsC l) ∧ ∀ g, v.ownBlock = some g → B ≤ g
theorem OwnPt.fr {B : Nat} {v : Value} {l : List (Int × Nat)} {w w' : World} (h : OwnPt B v l w) (hf : Fr [] w w') : OwnPt B v l w' := ⟨ownsRow_fr h.1 hf (fun _ _ h => by cases h), h.2⟩
theorem OwnPt.weak {B B' : Nat} {v : Value} {l : List (Int × Nat)} {w : World} (h : OwnPt B v l w) (hb : B' ≤ B) : OwnPt B' v l w := ⟨h.1, fun g hg => Nat.le_trans hb (h.2 g hg)⟩
theorem OwnPt.nil_ (B : Nat) (w : World) : OwnPt B (.slice none 0 0) [] w := ⟨⟨by simp [ptsC], .inl ⟨rfl, rfl⟩⟩, fun g hg => by simp [Value.ownBlock] at hg⟩
theorem OwnPt.form {B : Nat} {v : Value} {l : List (Int × Nat)} {w : World} (h : OwnPt B v l w) : (v = .slice none 0 0 ∧ l = []) ∨ ∃ g c, v = .slice (some ⟨g, 0, none⟩) l.length c ∧ B ≤ g ∧ g < w.heap.size ∧ ∀ (j : Nat) (u : Value), (ptsC l)[j]? = some u → w.cell? ((⟨g, 0, none⟩ : Addr).add j) = some u := by
 rcases h.1.2 with ⟨hv, hn⟩ | ⟨g, cap, cur, hv, _, hg, _⟩
 ·exact .inl ⟨hv, List.eq_nil_of_length_eq_zero hn⟩
 ·subst hv
  exact .inr ⟨g, cap, rfl, h.2 g rfl, (Array.getElem?_eq_some_iff.1 hg).1, fun j u hj => h.1.cells (g := g) rfl j u hj⟩
theorem infoPart : (Tryz.prog.info? 36).map (fun i => (i.zero, i.size, i.bytes)) = some (some (.agg #[.int .i64 0, .int .i64 0]), 2, 16) := by kernel_rfl
theorem take_step {α : Type} (P C : List α) (m : Nat) : P.take m ++ C.take (m - (P.take m).length) = (P ++ C).take m := by
 rw [List.take_append, List.length_take]
 rcases Nat.le_total P.length m with h | h
 ·rw [Nat.min_eq_right h]
 ·rw [Nat.min_eq_left h, Nat.sub_self, Nat.sub_eq_zero_of_le h]
theorem take_full {α : Type} (P C : List α) (m : Nat) (h : m ≤ (P.take m).length) : P.take m = (P ++ C).take m := by
 rw [List.length_take] at h
 rw [List.take_append_of_le_length (by omega)]
theorem partsPs_app (l m : List PatT) (d : Nat) : partsPs (l ++ m) d = partsPs l d ++ partsPs m d := by
 induction l with
 | nil => simp [partsPs]
 | cons x l ih => simp [partsPs, ih]
theorem partsEs_app (l m : List ExprT) (d : Nat) : partsEs (l ++ m) d = partsEs l d ++ partsEs m d := by
 induction l with
 | nil => simp [partsEs]
 | cons x l ih => simp [partsEs, ih]
theorem partsAs_app (l m : List (PatT × ExprT)) (d : Nat) : partsAs (l ++ m) d = partsAs l d ++ partsAs m d := by
 induction l with
 | nil => simp [partsAs]
 | cons x l ih => simp [partsAs, ih]
theorem partsPs_take {l : List PatT} {i : Nat} {x : PatT} (h : l[i]? = some x) (d : Nat) : partsPs (l.take (i + 1)) d = partsPs (l.take i) d ++ partsP x d := by
 obtain ⟨hi, he⟩ := List.getElem?_eq_some_iff.1 h
 rw [List.take_succ_eq_append_getElem hi, partsPs_app, he]; simp [partsPs]
theorem partsEs_take {l : List ExprT} {i : Nat} {x : ExprT} (h : l[i]? = some x) (d : Nat) : partsEs (l.take (i + 1)) d = partsEs (l.take i) d ++ partsE x d := by
 obtain ⟨hi, he⟩ := List.getElem?_eq_some_iff.1 h
 rw [List.take_succ_eq_append_getElem hi, partsEs_app, he]; simp [partsEs]
theorem partsAs_take {l : List (PatT × ExprT)} {i : Nat} {p : PatT} {x : ExprT} (h : l[i]? = some (p, x)) (d : Nat) : partsAs (l.take (i + 1)) d = partsAs (l.take i) d ++ partsP p d ++ partsE x d := by
 obtain ⟨hi, he⟩ := List.getElem?_eq_some_iff.1 h
 rw [List.take_succ_eq_append_getElem hi, partsAs_app, he]; simp [partsAs, partsA]
theorem OwnPt.app {B : Nat} {v v' : Value} {l m : List (Int × Nat)} {w w' : World} (h : OwnPt B v l w) (hb : B ≤ w.heap.size) (hown : w'.ownsRow 0 36 2 v' (l.length + m.length) (ptsC l ++ ptsC m)) (hg : w.grownBy w' v.ownBlock) (hfp : FpOf v v' w.heap.size) :
  OwnPt B v' (l ++ m) w' ∧ (∀ w0 : World, Fr [] w0 w → w0.heap.size ≤ B → Fr [] w0 w') ∧ ∀ (k : Nat) (o : Obj), k < B → w.heap[k]? = some o → w'.heap[k]? = some o := by
 refine ⟨⟨by rw [List.length_append, ptsC_app]; exact hown, fun g hg' => (hfp g hg').elim (fun h1 => h.2 g h1) (fun h1 => by omega)⟩, fun w0 hf h0 => hf.append hg (fun g hg' => .inr (by have := h.2 g hg'; omega)), fun k o hk ho => ?_⟩
 have h1 := hg.block k (lt_of_heap ho) (fun e => by have := h.2 k e.symm; omega)
 exact h1.trans ho
inductive BdP (b : Nat) : PatT → Prop
 | mk {k a nm n s ls args} (h : args.length ≤ b) (h2 : ∀ (i : Nat) (x : PatT), args[i]? = some x → BdP b x) : BdP b (.mk k a nm n s ls args)
inductive BdE (b : Nat) : ExprT → Prop
 | mk {k a nm n s ls args arms} (h : args.length ≤ b) (h2 : ∀ (i : Nat) (x : ExprT), args[i]? = some x → BdE b x) (h3 : arms.length ≤ b) (h4 : ∀ (i : Nat) (p : PatT) (x : ExprT), arms[i]? = some (p, x) → BdP b p) (h5 : ∀ (i : Nat) (p : PatT) (x : ExprT), arms[i]? = some (p, x) → BdE b x) : BdE b (.mk k a nm n s ls args arms)
def PPA (N : Nat) : Prop := ∀ (k a : Int) (nm : List UInt8) (n : Int) (s : List UInt8) (ls : List (List UInt8)) (args : List PatT) (v5 v6 : Value) (d : Nat) (D : Int) (m : Nat) (M : Int) (w : World), szP (.mk k a nm n s ls args) < N → D = d → d + m ≤ 4398046511104 → M = m → BdP 4398046511104 (.mk k a nm n s ls args) →
  PatAt w (fun b => b < w.heap.size) (.mk k a nm n s ls args) [.int .i64 k, .int .i64 a, .string ⟨nm.toArray⟩, .int .i64 n, .string ⟨s.toArray⟩, v5, v6] →
  Calls Tryz.prog 26 #[.agg #[.int .i64 k, .int .i64 a, .string ⟨nm.toArray⟩, .int .i64 n, .string ⟨s.toArray⟩, v5, v6], .int .i64 D, .int .i64 M] w fun e w' => ∃ v, e = .returned v ∧ OwnPt w.heap.size v ((partsP (.mk k a nm n s ls args) d).take m) w' ∧ Fr [] w w'
set_option maxHeartbeats 8000000 in
set_option maxRecDepth 100000 in
theorem ppa_step (N : Nat) (ih : PPA N) : PPA (N + 1) := by
 intro k a nm n s ls args v5 v6 d D m M w hN hD hb hM hbd hx
 subst hM
 have hm : m ≤ 4398046511104 := by omega
 cases hx with
 | mk c5 c6 h5 e5 h6 e6 =>
 have hsz : szP (.mk k a nm n s ls args) = 1 + szPs args := by simp [szP]
 rw [hsz] at hN
 cases hbd with
 | mk bd1 bd2 =>
 have HBD := Lib.hid bd2
 rw [partsP_mk]
 have hform : ∃ A6 m6 cc6, v6 = .slice A6 m6 cc6 ∧ m6 = args.length := by
  obtain ⟨_, _, hv⟩ := h6.form
  exact ⟨_, _, _, hv, rfl⟩
 obtain ⟨A6, m6, cc6, rfl, rfl⟩ := hform
 have hform : ∃ A5 m5 cc5, v5 = .slice A5 m5 cc5 := by obtain ⟨_, _, hv⟩ := h5.form; exact ⟨_, _, _, hv⟩
 obtain ⟨A5, m5, cc5, rfl⟩ := hform
 have IH := Lib.hid ih
 have H6 := Lib.hid h6
 have E6 : Hid (∀ (i : Nat) (x : PatT), args[i]? = some x → PatAt w (fun b => b < w.heap.size) x (c6 i)) := Lib.hid e6
 have HN := Lib.hid hN
 have hdn : (0 : Int) ≤ D := by omega
 have hdx : D ≤ 4398046511104 := by omega
 have HD := Lib.hid hD
 have hm6 : (args.length : Int) ≤ 4611686018427387903 := by omega
 obtain ⟨i0, hi, hz0, hz1, hz2⟩ := info_parts infoPart
 have HI := Lib.hid hi
 have HZ0 := Lib.hid hz0
 have HZ1 := Lib.hid hz1
 have HZ2 := Lib.hid hz2
 have HB := Lib.hid hb
 clear ih h5 e5 h6 e6 hN hsz hi hz0 hz1 hz2 hD hb bd2
 go_enter Tryz.func26, Tryz.ntmps26
 by_cases hm0 : m = 0
 ·subst hm0
  go_wp2_with fail
  have f0 : Fr [] w (w.alloc (.cells #[.int .i64 k, .int .i64 a, .string ⟨nm.toArray⟩, .int .i64 n, .string ⟨s.toArray⟩, .slice A5 m5 cc5, .slice A6 args.length cc6] 62)) := (Fr.refl [] w).alloc _
  have q0 := heap_new w (.cells #[.int .i64 k, .int .i64 a, .string ⟨nm.toArray⟩, .int .i64 n, .string ⟨s.toArray⟩, .slice A5 m5 cc5, .slice A6 args.length cc6] 62)
  generalize w.alloc (.cells #[.int .i64 k, .int .i64 a, .string ⟨nm.toArray⟩, .int .i64 n, .string ⟨s.toArray⟩, .slice A5 m5 cc5, .slice A6 args.length cc6] 62) = w1 at *
  have hT1 := lt_of_heap q0
  go_ret
  exact ⟨_, rfl, OwnPt.nil_ _ _, f0⟩
 ·have hM0 : ¬ (m : Int) ≤ 0 := by omega
  have hMx : (m : Int) ≤ 4398046511104 := by omega
  have hs1 : (w.alloc (.cells #[.int .i64 k, .int .i64 a, .string ⟨nm.toArray⟩, .int .i64 n, .string ⟨s.toArray⟩, .slice A5 m5 cc5, .slice A6 args.length cc6] 62)).heap.size = w.heap.size + 1 := by simp
  have hown : OwnPt (w.heap.size + 1) (.slice (some ⟨w.heap.size + 1, 0, none⟩) 1 1) (((a, d) :: partsPs (args.take 0) (d + 1)).take m) ((w.alloc (.cells #[.int .i64 k, .int .i64 a, .string ⟨nm.toArray⟩, .int .i64 n, .string ⟨s.toArray⟩, .slice A5 m5 cc5, .slice A6 args.length cc6] 62)).alloc (.cells #[.int .i64 a, .int .i64 D] 36)) := by
   have e : ((a, d) :: partsPs (args.take 0) (d + 1)).take m = [(a, d)] := by
    obtain ⟨m', rfl⟩ : ∃ m', m = m' + 1 := ⟨m - 1, by omega⟩
    simp [partsPs]
   rw [e]
   refine ⟨?_, fun g hg => by simp [Value.ownBlock] at hg; omega⟩
   have := World.ownsRow_lit (base := 0) (e := 36) (size := 2) (w.alloc (.cells #[.int .i64 k, .int .i64 a, .string ⟨nm.toArray⟩, .int .i64 n, .string ⟨s.toArray⟩, .slice A5 m5 cc5, .slice A6 args.length cc6] 62)) #[.int .i64 a, .int .i64 D] 1 (Nat.zero_le _) (by decide) (by simp)
   rw [hs1] at this
   have hDD := HD.out
   subst hDD
   simpa [ptsC, ptC] using this
  have HT := Lib.hid hown
  have f1 : Fr [] w ((w.alloc (.cells #[.int .i64 k, .int .i64 a, .string ⟨nm.toArray⟩, .int .i64 n, .string ⟨s.toArray⟩, .slice A5 m5 cc5, .slice A6 args.length cc6] 62)).alloc (.cells #[.int .i64 a, .int .i64 D] 36)) := ((Fr.refl [] w).alloc _).alloc _
  have q0 := heap_old (heap_new w (.cells #[.int .i64 k, .int .i64 a, .string ⟨nm.toArray⟩, .int .i64 n, .string ⟨s.toArray⟩, .slice A5 m5 cc5, .slice A6 args.length cc6] 62)) (.cells #[.int .i64 a, .int .i64 D] 36)
  clear hown hs1
  go_wp2_with fail
  generalize (w.alloc (.cells #[.int .i64 k, .int .i64 a, .string ⟨nm.toArray⟩, .int .i64 n, .string ⟨s.toArray⟩, .slice A5 m5 cc5, .slice A6 args.length cc6] 62)).alloc (.cells #[.int .i64 a, .int .i64 D] 36) = w2 at *
  generalize hT : w.heap.size = T at *
  go_loopw [7, 8] (fun v iv wr => ∃ (i : Nat), iv = .int .i64 i ∧ i ≤ args.length ∧ Hid (OwnPt (T + 1) v (((a, d) :: partsPs (args.take i) (d + 1)).take m) wr) ∧ Fr [] w wr ∧ wr.heap[T]? = some (.cells #[.int .i64 k, .int .i64 a, .string ⟨nm.toArray⟩, .int .i64 n, .string ⟨s.toArray⟩, .slice A5 m5 cc5, .slice A6 args.length cc6] 62 (0, 0))) (fun _ iv _ => args.length - (intOf iv).toNat)
  case atStart => exact ⟨0, rfl, by omega, HT, f1, q0⟩
  case round =>
   obtain ⟨i, rfl, hi', HO, f, q⟩ := hrel
   clear HT f1 q0
   have hTw := lt_of_heap q
   obtain ⟨⟨l0, l1, l2, l3, l4, l5, l6⟩, _⟩ := cells7 q
   have hne : ((a, d) :: partsPs (args.take i) (d + 1)).take m ≠ [] := by
    obtain ⟨m', rfl⟩ : ∃ m', m = m' + 1 := ⟨m - 1, by omega⟩
    simp
   have hlm : (((a, d) :: partsPs (args.take i) (d + 1)).take m).length ≤ m := by rw [List.length_take]; omega
   rcases HO.out.form with ⟨_, h⟩ | ⟨g0, c0, hv, hBg, hgs0, _⟩
   ·exact absurd h hne
   ·subst hv
    by_cases hlt : i < args.length ∧ (((a, d) :: partsPs (args.take i) (d + 1)).take m).length < m
    ·obtain ⟨hlt, hroom⟩ := hlt
     obtain ⟨y, hy⟩ : ∃ y, args[i]? = some y := ⟨args[i], List.getElem?_eq_getElem hlt⟩
     have HS : Hid ((((a, d) :: partsPs (args.take (i + 1)) (d + 1)).take m) = (((a, d) :: partsPs (args.take i) (d + 1)).take m) ++ (partsP y (d + 1)).take (m - (((a, d) :: partsPs (args.take i) (d + 1)).take m).length)) := Lib.hid (by
      rw [take_step, partsPs_take hy, List.cons_append])
     have HY := Lib.hid hy
     have hlp : 1 ≤ (((a, d) :: partsPs (args.take i) (d + 1)).take m).length := List.length_pos_iff.2 hne
     clear hy hne
     generalize ((a, d) :: partsPs (args.take i) (d + 1)).take m = L at *
     have hyx := E6.out i y HY.out
     rcases H6.out with ⟨_, _, _, hl⟩ | ⟨g, og, c', hv, hg, hgs, hcs⟩
     ·omega
     ·cases hv
      obtain ⟨hcl, hcc⟩ := hcs i hlt
      have hcell : ∀ (j : Nat) (v : Value), (c6 i)[j]? = some v → wr.cell? ⟨g, og + i * 7 + j, none⟩ = some v := fun j v hj => (f.cell (p := ⟨g, og + i * 7 + j, none⟩) (by simp; omega) (fun x => by cases x)).trans (hcc j v hj)
      have hgw : g < wr.heap.size := Nat.lt_of_lt_of_le hgs (by have := f.size; omega)
      generalize hci : c6 i = ci at *
      have hyw := hyx.keep (w' := wr) (ok' := fun b => b < wr.heap.size) (Sh.of_fr f (fun b hb _ => ⟨by have := f.size; omega, fun x => by cases x⟩))
      cases hyx with
      | @mk k2 a2 nm2 n2 s2 ls2 args2 v52 v62 c52 c62 h52 e52 h62 e62 =>
      have hf5 : ∃ A m cc, v52 = .slice A m cc := by obtain ⟨_, _, hv⟩ := h52.form; exact ⟨_, _, _, hv⟩
      have hf6 : ∃ A m cc, v62 = .slice A m cc := by obtain ⟨_, _, hv⟩ := h62.form; exact ⟨_, _, _, hv⟩
      clear h52 e52 h62 e62
      obtain ⟨A52, m52, cc52, rfl⟩ := hf5
      obtain ⟨A62, m62, cc62, rfl⟩ := hf6
      have x0 : wr.cell? ⟨g, og + i * 7, none⟩ = some (.int .i64 k2) := hcell 0 _ rfl
      have x1 : wr.cell? ⟨g, og + i * 7 + 1, none⟩ = some (.int .i64 a2) := hcell 1 _ rfl
      have x2 : wr.cell? ⟨g, og + i * 7 + 2, none⟩ = some (.string ⟨nm2.toArray⟩) := hcell 2 _ rfl
      have x3 : wr.cell? ⟨g, og + i * 7 + 3, none⟩ = some (.int .i64 n2) := hcell 3 _ rfl
      have x4 : wr.cell? ⟨g, og + i * 7 + 4, none⟩ = some (.string ⟨s2.toArray⟩) := hcell 4 _ rfl
      have x5 : wr.cell? ⟨g, og + i * 7 + 5, none⟩ = some (.slice A52 m52 cc52) := hcell 5 _ rfl
      have x6 : wr.cell? ⟨g, og + i * 7 + 6, none⟩ = some (.slice A62 m62 cc62) := hcell 6 _ rfl
      have hsz2 := szPs_get HY.out
      have cP := Lib.hid (IH.out k2 a2 nm2 n2 s2 ls2 args2 (.slice A52 m52 cc52) (.slice A62 m62 cc62) (d + 1) (D + 1) (m - L.length) ((m : Int) - (L.length : Int)) wr (by have := HN.out; omega) (by rw [HD.out]; simp) (by have := HB.out; omega) (by omega) (HBD.out i _ HY.out) hyw)
      clear hcell hci hcc hcs hcl hyw hg
      have q1 : (0 : Int) ≤ (i : Int) := by omega
      have q2 : (i : Int) < (args.length : Int) := by omega
      have q3 : (L.length : Int) < (m : Int) := by omega
      go_wp2_with fail
      refine cP.out.mono ?_
      rintro e w3 ⟨v3, rfl, O3, f3⟩
      clear cP
      have O0 := HO.out.fr f3
      have q := f3.keep q (fun x => by cases x)
      have F := f.trans f3
      have hcl : ((partsP (.mk k2 a2 nm2 n2 s2 ls2 args2) (d + 1)).take (m - L.length)).length ≤ m - L.length := by rw [List.length_take]; omega
      have hcn : (partsP (.mk k2 a2 nm2 n2 s2 ls2 args2) (d + 1)).take (m - L.length) ≠ [] := by
       rw [partsP_mk]
       obtain ⟨m', hm'⟩ : ∃ m', m - L.length = m' + 1 := ⟨m - L.length - 1, by omega⟩
       rw [hm']; simp
      generalize (partsP (.mk k2 a2 nm2 n2 s2 ls2 args2) (d + 1)).take (m - L.length) = C at *
      rcases O3.form with ⟨_, h⟩ | ⟨g3, c3, rfl, _, hg3, hnews⟩
      ·exact absurd h hcn
      ·have hi := HI.out
       have hz0 := HZ0.out
       have hz1 := HZ1.out
       have hz2 := HZ2.out
       clear hcn f3
       go_wp2_with (at_builtin; refine wpList_append_fp _ rfl _ _ 33 rfl 36 i0 _ 2 16 Tryz.underlying33 hi hz0 hz1 hz2 rfl (by decide) _ _ _ rfl O0.1 ⟨g3, 0, none⟩ C.length c3 (ptsC C) rfl (ptsC_len _) ?c4a (ptsC_one _) ?c4b ?c4c ?_)
       case c4a => exact hnews
       case c4b => unfold maxLen; omega
       case c4c => omega
       intro v4 z4 hown4 hgrow4 hfp4
       obtain ⟨O4, F4, K4⟩ := O0.app (by have := F.size; have := lt_of_heap q; omega) hown4 hgrow4 hfp4
       have HO4 : Hid (OwnPt (T + 1) v4 (((a, d) :: partsPs (args.take (i + 1)) (d + 1)).take m) z4) := Lib.hid (by rw [HS.out]; exact O4)
       have q := K4 T _ (by omega) q
       have F := F4 w F (by omega)
       clear hown4 hgrow4 hfp4 O4 F4 K4 O0 O3 hnews HS HO hi hz0 hz1 hz2
       go_wp2_with fail
       go_roundw
       case rel => exact ⟨i + 1, by go_num, by omega, HO4, F, q⟩
       case measure => simp [intOf]; omega
    ·have HR : Hid (OwnPt T (.slice (some ⟨g0, 0, none⟩) (((a, d) :: partsPs (args.take i) (d + 1)).take m).length c0) (((a, d) :: partsPs args (d + 1)).take m) wr) := Lib.hid (by
      have e : ((a, d) :: partsPs (args.take i) (d + 1)).take m = ((a, d) :: partsPs args (d + 1)).take m := by
       by_cases h1 : i < args.length
       ·have h2 := take_full ((a, d) :: partsPs (args.take i) (d + 1)) (partsPs (args.drop i) (d + 1)) m (by omega)
        rw [h2, List.cons_append, ← partsPs_app, List.take_append_drop]
       ·have e3 : args.take i = args := List.take_of_length_le (by omega)
        rw [e3]
      rw [← e]
      exact HO.out.weak (by omega))
     have hrm : i < args.length → ¬ (((a, d) :: partsPs (args.take i) (d + 1)).take m).length < m := fun h1 h => hlt ⟨h1, h⟩
     clear HO hne hlt
     generalize (((a, d) :: partsPs (args.take i) (d + 1)).take m).length = r at *
     by_cases h1 : i < args.length
     ·have h2 : ¬ (r : Int) < (m : Int) := by have := hrm h1; omega
      have q2 : (i : Int) < (args.length : Int) := by omega
      go_wp2_with fail
      go_ret
      exact ⟨_, rfl, HR.out, f⟩
     ·have q2 : ¬ (i : Int) < (args.length : Int) := by omega
      go_wp2_with fail
      go_ret
      exact ⟨_, rfl, HR.out, f⟩
theorem ppa_all : ∀ N, PPA N
 | 0 => fun _ _ _ _ _ _ _ _ _ _ _ _ _ _ h => absurd h (Nat.not_lt_zero _)
 | N + 1 => ppa_step N (ppa_all N)
end Go.Proofs.YtpjkfeehgookkaaGreatDoor
namespace Go.Proofs.YtpjkfeehgookkaaGreatDoor
open Go.RowKit
attribute [local go_sem ↓] Go.wp_at_zero Go.wp_at_succ
def PXA (N : Nat) : Prop := ∀ (k a : Int) (nm : List UInt8) (n : Int) (s : List UInt8) (ls : List (List UInt8)) (args : List ExprT) (arms : List (PatT × ExprT)) (v5 v6 v7 : Value) (d : Nat) (D : Int) (m : Nat) (M : Int) (w : World), szE (.mk k a nm n s ls args arms) < N → D = d → d + m ≤ 4398046511104 → M = m → BdE 4398046511104 (.mk k a nm n s ls args arms) →
  ExprAt w (fun b => b < w.heap.size) (.mk k a nm n s ls args arms) [.int .i64 k, .int .i64 a, .string ⟨nm.toArray⟩, .int .i64 n, .string ⟨s.toArray⟩, v5, v6, v7] →
  Calls Tryz.prog 15 #[.agg #[.int .i64 k, .int .i64 a, .string ⟨nm.toArray⟩, .int .i64 n, .string ⟨s.toArray⟩, v5, v6, v7], .int .i64 D, .int .i64 M] w fun e w' => ∃ v, e = .returned v ∧ OwnPt w.heap.size v ((partsE (.mk k a nm n s ls args arms) d).take m) w' ∧ Fr [] w w'
set_option maxHeartbeats 16000000 in
set_option maxRecDepth 100000 in
theorem pxa_step (N : Nat) (ih : PXA N) : PXA (N + 1) := by
 intro k a nm n s ls args arms v5 v6 v7 d D m M w hN hD hb hM hbd hx
 subst hM
 have hm : m ≤ 4398046511104 := by omega
 cases hx with
 | mk c5 c6 cp ce h5 e5 h6 e6 h7 e7 e8 =>
 have hsz : szE (.mk k a nm n s ls args arms) = 1 + (szEs args + szAs arms) := by simp [szE]
 rw [hsz] at hN
 cases hbd with
 | mk bd1 bd2 bd3 bd4 bd5 =>
 have HBD2 := Lib.hid bd2
 have HBD4 := Lib.hid bd4
 have HBD5 := Lib.hid bd5
 rw [partsE_mk]
 have hform : ∃ A6 m6 cc6, v6 = .slice A6 m6 cc6 ∧ m6 = args.length := by
  obtain ⟨_, _, hv⟩ := h6.form
  exact ⟨_, _, _, hv, rfl⟩
 obtain ⟨A6, m6, cc6, rfl, rfl⟩ := hform
 have hform : ∃ A7 m7 cc7, v7 = .slice A7 m7 cc7 ∧ m7 = arms.length := by
  obtain ⟨_, _, hv⟩ := h7.form
  exact ⟨_, _, _, hv, rfl⟩
 obtain ⟨A7, m7, cc7, rfl, rfl⟩ := hform
 have hform : ∃ A5 m5 cc5, v5 = .slice A5 m5 cc5 := by obtain ⟨_, _, hv⟩ := h5.form; exact ⟨_, _, _, hv⟩
 obtain ⟨A5, m5, cc5, rfl⟩ := hform
 have IH := Lib.hid ih
 have H6 := Lib.hid h6
 have H7 := Lib.hid h7
 have E6 : Hid (∀ (i : Nat) (x : ExprT), args[i]? = some x → ExprAt w (fun b => b < w.heap.size) x (c6 i)) := Lib.hid e6
 have E7 : Hid (∀ (i : Nat) (p : PatT) (x : ExprT), arms[i]? = some (p, x) → PatAt w (fun b => b < w.heap.size) p (cp i)) := Lib.hid e7
 have E8 : Hid (∀ (i : Nat) (p : PatT) (x : ExprT), arms[i]? = some (p, x) → ExprAt w (fun b => b < w.heap.size) x (ce i)) := Lib.hid e8
 have HN := Lib.hid hN
 have hdn : (0 : Int) ≤ D := by omega
 have hdx : D ≤ 4398046511104 := by omega
 have HD := Lib.hid hD
 have hm6 : (args.length : Int) ≤ 4611686018427387903 := by omega
 have hm7 : (arms.length : Int) ≤ 4611686018427387903 := by omega
 obtain ⟨i0, hi, hz0, hz1, hz2⟩ := info_parts infoPart
 have HI := Lib.hid hi
 have HZ0 := Lib.hid hz0
 have HZ1 := Lib.hid hz1
 have HZ2 := Lib.hid hz2
 have HB := Lib.hid hb
 clear ih h5 e5 h6 e6 h7 e7 e8 hN hsz hi hz0 hz1 hz2 hD hb bd2 bd4 bd5
 go_enter Tryz.func15, Tryz.ntmps15
 by_cases hm0 : m = 0
 ·subst hm0
  go_wp2_with fail
  have f0 : Fr [] w (w.alloc (.cells #[.int .i64 k, .int .i64 a, .string ⟨nm.toArray⟩, .int .i64 n, .string ⟨s.toArray⟩, .slice A5 m5 cc5, .slice A6 args.length cc6, .slice A7 arms.length cc7] 27)) := (Fr.refl [] w).alloc _
  go_ret
  exact ⟨_, rfl, OwnPt.nil_ _ _, f0⟩
 ·have hM0 : ¬ (m : Int) ≤ 0 := by omega
  have hMx : (m : Int) ≤ 4398046511104 := by omega
  have hs1 : (w.alloc (.cells #[.int .i64 k, .int .i64 a, .string ⟨nm.toArray⟩, .int .i64 n, .string ⟨s.toArray⟩, .slice A5 m5 cc5, .slice A6 args.length cc6, .slice A7 arms.length cc7] 27)).heap.size = w.heap.size + 1 := by simp
  have hown : OwnPt (w.heap.size + 1) (.slice (some ⟨w.heap.size + 1, 0, none⟩) 1 1) (((a, d) :: partsEs (args.take 0) (d + 1)).take m) ((w.alloc (.cells #[.int .i64 k, .int .i64 a, .string ⟨nm.toArray⟩, .int .i64 n, .string ⟨s.toArray⟩, .slice A5 m5 cc5, .slice A6 args.length cc6, .slice A7 arms.length cc7] 27)).alloc (.cells #[.int .i64 a, .int .i64 D] 36)) := by
   have e : ((a, d) :: partsEs (args.take 0) (d + 1)).take m = [(a, d)] := by
    obtain ⟨m', rfl⟩ : ∃ m', m = m' + 1 := ⟨m - 1, by omega⟩
    simp [partsEs]
   rw [e]
   refine ⟨?_, fun g hg => by simp [Value.ownBlock] at hg; omega⟩
   have := World.ownsRow_lit (base := 0) (e := 36) (size := 2) (w.alloc (.cells #[.int .i64 k, .int .i64 a, .string ⟨nm.toArray⟩, .int .i64 n, .string ⟨s.toArray⟩, .slice A5 m5 cc5, .slice A6 args.length cc6, .slice A7 arms.length cc7] 27)) #[.int .i64 a, .int .i64 D] 1 (Nat.zero_le _) (by decide) (by simp)
   rw [hs1] at this
   have hDD := HD.out
   subst hDD
   simpa [ptsC, ptC] using this
  have HT := Lib.hid hown
  have f1 : Fr [] w ((w.alloc (.cells #[.int .i64 k, .int .i64 a, .string ⟨nm.toArray⟩, .int .i64 n, .string ⟨s.toArray⟩, .slice A5 m5 cc5, .slice A6 args.length cc6, .slice A7 arms.length cc7] 27)).alloc (.cells #[.int .i64 a, .int .i64 D] 36)) := ((Fr.refl [] w).alloc _).alloc _
  have q0 := heap_old (heap_new w (.cells #[.int .i64 k, .int .i64 a, .string ⟨nm.toArray⟩, .int .i64 n, .string ⟨s.toArray⟩, .slice A5 m5 cc5, .slice A6 args.length cc6, .slice A7 arms.length cc7] 27)) (.cells #[.int .i64 a, .int .i64 D] 36)
  clear hown hs1
  go_wp2_with fail
  generalize (w.alloc (.cells #[.int .i64 k, .int .i64 a, .string ⟨nm.toArray⟩, .int .i64 n, .string ⟨s.toArray⟩, .slice A5 m5 cc5, .slice A6 args.length cc6, .slice A7 arms.length cc7] 27)).alloc (.cells #[.int .i64 a, .int .i64 D] 36) = w2 at *
  generalize hT : w.heap.size = T at *
  go_loopw [7, 8] (fun v iv wr => ∃ (i : Nat), iv = .int .i64 i ∧ i ≤ args.length ∧ Hid (OwnPt (T + 1) v (((a, d) :: partsEs (args.take i) (d + 1)).take m) wr) ∧ Fr [] w wr ∧ wr.heap[T]? = some (.cells #[.int .i64 k, .int .i64 a, .string ⟨nm.toArray⟩, .int .i64 n, .string ⟨s.toArray⟩, .slice A5 m5 cc5, .slice A6 args.length cc6, .slice A7 arms.length cc7] 27 (0, 0))) (fun _ iv _ => args.length - (intOf iv).toNat)
  case atStart => exact ⟨0, rfl, by omega, HT, f1, q0⟩
  case round =>
   clear HT f1 q0
   obtain ⟨i, rfl, hi', HO, f, q⟩ := hrel
   have hTw := lt_of_heap q
   obtain ⟨⟨l0, l1, l2, l3, l4, l5, l6, l7⟩, _⟩ := cells8 q
   have hne : ((a, d) :: partsEs (args.take i) (d + 1)).take m ≠ [] := by
    obtain ⟨m', rfl⟩ : ∃ m', m = m' + 1 := ⟨m - 1, by omega⟩
    simp
   have hlm : (((a, d) :: partsEs (args.take i) (d + 1)).take m).length ≤ m := by rw [List.length_take]; omega
   rcases HO.out.form with ⟨_, h⟩ | ⟨g0, c0, hv, hBg, hgs0, _⟩
   ·exact absurd h hne
   ·subst hv
    by_cases hlt : i < args.length ∧ (((a, d) :: partsEs (args.take i) (d + 1)).take m).length < m
    ·obtain ⟨hlt, hroom⟩ := hlt
     obtain ⟨y, hy⟩ : ∃ y, args[i]? = some y := ⟨args[i], List.getElem?_eq_getElem hlt⟩
     have HS : Hid ((((a, d) :: partsEs (args.take (i + 1)) (d + 1)).take m) = (((a, d) :: partsEs (args.take i) (d + 1)).take m) ++ (partsE y (d + 1)).take (m - (((a, d) :: partsEs (args.take i) (d + 1)).take m).length)) := Lib.hid (by
      rw [take_step, partsEs_take hy, List.cons_append])
     have HY := Lib.hid hy
     have hlp : 1 ≤ (((a, d) :: partsEs (args.take i) (d + 1)).take m).length := List.length_pos_iff.2 hne
     clear hy hne
     generalize ((a, d) :: partsEs (args.take i) (d + 1)).take m = L at *
     have hyx := E6.out i y HY.out
     rcases H6.out with ⟨_, _, _, hl⟩ | ⟨g, og, c', hv, hg, hgs, hcs⟩
     ·omega
     ·cases hv
      obtain ⟨hcl, hcc⟩ := hcs i hlt
      have hcell : ∀ (W : World), Fr [] w W → ∀ (j : Nat) (v : Value), (c6 i)[j]? = some v → W.cell? ⟨g, og + i * 8 + j, none⟩ = some v := fun W hW j v hj => (hW.cell (p := ⟨g, og + i * 8 + j, none⟩) (by simp; omega) (fun x => by cases x)).trans (hcc j v hj)
      have hgw : g < wr.heap.size := Nat.lt_of_lt_of_le hgs (by have := f.size; omega)
      generalize hci : c6 i = ci at *
      have hyw := hyx.keep (w' := wr) (ok' := fun b => b < wr.heap.size) (Sh.of_fr f (fun b hb _ => ⟨by have := f.size; omega, fun x => by cases x⟩))
      cases hyx with
      | @mk k2 a2 nm2 n2 s2 ls2 args2 arms2 v52 v62 v72 c52 c62 cp2 ce2 h52 e52 h62 e62 h72 e72 e82 =>
      have hf : ∃ A m cc, v52 = .slice A m cc := by obtain ⟨_, _, hv⟩ := h52.form; exact ⟨_, _, _, hv⟩
      obtain ⟨A52, m52, cc52, rfl⟩ := hf
      have hf : ∃ A m cc, v62 = .slice A m cc := by obtain ⟨_, _, hv⟩ := h62.form; exact ⟨_, _, _, hv⟩
      obtain ⟨A62, m62, cc62, rfl⟩ := hf
      have hf : ∃ A m cc, v72 = .slice A m cc := by obtain ⟨_, _, hv⟩ := h72.form; exact ⟨_, _, _, hv⟩
      obtain ⟨A72, m72, cc72, rfl⟩ := hf
      clear h52 e52 h62 e62 h72 e72 e82
      have x0 : wr.cell? ⟨g, og + i * 8, none⟩ = some (.int .i64 k2) := hcell wr f 0 _ rfl
      have x1 : wr.cell? ⟨g, og + i * 8 + 1, none⟩ = some (.int .i64 a2) := hcell wr f 1 _ rfl
      have x2 : wr.cell? ⟨g, og + i * 8 + 2, none⟩ = some (.string ⟨nm2.toArray⟩) := hcell wr f 2 _ rfl
      have x3 : wr.cell? ⟨g, og + i * 8 + 3, none⟩ = some (.int .i64 n2) := hcell wr f 3 _ rfl
      have x4 : wr.cell? ⟨g, og + i * 8 + 4, none⟩ = some (.string ⟨s2.toArray⟩) := hcell wr f 4 _ rfl
      have x5 : wr.cell? ⟨g, og + i * 8 + 5, none⟩ = some (.slice A52 m52 cc52) := hcell wr f 5 _ rfl
      have x6 : wr.cell? ⟨g, og + i * 8 + 6, none⟩ = some (.slice A62 m62 cc62) := hcell wr f 6 _ rfl
      have x7 : wr.cell? ⟨g, og + i * 8 + 7, none⟩ = some (.slice A72 m72 cc72) := hcell wr f 7 _ rfl
      have hsz2 := szEs_get HY.out
      have cP := Lib.hid (IH.out k2 a2 nm2 n2 s2 ls2 args2 arms2 (.slice A52 m52 cc52) (.slice A62 m62 cc62) (.slice A72 m72 cc72) (d + 1) (D + 1) (m - L.length) ((m : Int) - (L.length : Int)) wr (by have := HN.out; omega) (by rw [HD.out]; simp) (by have := HB.out; omega) (by omega) (HBD2.out i _ HY.out) hyw)
      clear hcell hci hcc hcs hcl hyw hg
      have q1 : (0 : Int) ≤ (i : Int) := by omega
      have q2 : (i : Int) < (args.length : Int) := by omega
      have q3 : (L.length : Int) < (m : Int) := by omega
      go_wp2_with fail
      refine cP.out.mono ?_
      rintro e w3 ⟨v3, rfl, O3, f3⟩
      clear cP
      have O0 := HO.out.fr f3
      replace q := f3.keep q (fun x => by cases x)
      have F := f.trans f3
      have hcl : ((partsE (.mk k2 a2 nm2 n2 s2 ls2 args2 arms2) (d + 1)).take (m - L.length)).length ≤ m - L.length := by rw [List.length_take]; omega
      have hcn : (partsE (.mk k2 a2 nm2 n2 s2 ls2 args2 arms2) (d + 1)).take (m - L.length) ≠ [] := by
       rw [partsE_mk]
       obtain ⟨m', hm'⟩ : ∃ m', m - L.length = m' + 1 := ⟨m - L.length - 1, by omega⟩
       rw [hm']; simp
      generalize (partsE (.mk k2 a2 nm2 n2 s2 ls2 args2 arms2) (d + 1)).take (m - L.length) = C at *
      rcases O3.form with ⟨_, h⟩ | ⟨g3, c3, rfl, _, hg3, hnews⟩
      ·exact absurd h hcn
      ·clear hcn f3
       have hi := HI.out
       have hz0 := HZ0.out
       have hz1 := HZ1.out
       have hz2 := HZ2.out
       go_wp2_with (at_builtin; refine wpList_append_fp _ rfl _ _ 33 rfl 36 i0 _ 2 16 Tryz.underlying33 hi hz0 hz1 hz2 rfl (by decide) _ _ _ rfl O0.1 ⟨g3, 0, none⟩ C.length c3 (ptsC C) rfl (ptsC_len _) ?c4a (ptsC_one _) ?c4b ?c4c ?_)
       case c4a => exact hnews
       case c4b => unfold maxLen; omega
       case c4c => omega
       intro v4 z4 hown4 hgrow4 hfp4
       obtain ⟨O4, F4, K4⟩ := OwnPt.app O0 (by have := F.size; have := lt_of_heap q; omega) hown4 hgrow4 hfp4
       replace q := K4 T _ (by omega) q
       replace F := F4 w F (by omega)
       clear hown4 hgrow4 hfp4 F4 K4 hi hz0 hz1 hz2
       have HO4 : Hid (OwnPt (T + 1) v4 (((a, d) :: partsEs (args.take (i + 1)) (d + 1)).take m) z4) := Lib.hid (by rw [HS.out]; exact O4)
       clear O4 O0 O3 hnews HS HO
       go_wp2_with fail
       go_roundw
       case rel => exact ⟨i + 1, by go_num, by omega, HO4, F, q⟩
       case measure => simp [intOf]; omega
    ·have HS1 : Hid (OwnPt (T + 1) (.slice (some ⟨g0, 0, none⟩) (((a, d) :: partsEs (args.take i) (d + 1)).take m).length c0) (((a, d) :: partsEs args (d + 1)).take m) wr) := Lib.hid (by
      have e : ((a, d) :: partsEs (args.take i) (d + 1)).take m = ((a, d) :: partsEs args (d + 1)).take m := by
       by_cases h1 : i < args.length
       ·have h2 := take_full ((a, d) :: partsEs (args.take i) (d + 1)) (partsEs (args.drop i) (d + 1)) m (Nat.le_of_not_lt fun h => hlt ⟨h1, h⟩)
        rw [h2, List.cons_append, ← partsEs_app, List.take_append_drop]
       ·have e3 : args.take i = args := List.take_of_length_le (by omega)
        rw [e3]
      rw [← e]
      exact HO.out)
     have hrm : i < args.length → ¬ (((a, d) :: partsEs (args.take i) (d + 1)).take m).length < m := fun h1 h => hlt ⟨h1, h⟩
     clear HO hne hlt hlm
     generalize (((a, d) :: partsEs (args.take i) (d + 1)).take m).length = r at *
     by_cases h1 : i < args.length
     ·have h2 : ¬ (r : Int) < (m : Int) := by have := hrm h1; omega
      have q2 : (i : Int) < (args.length : Int) := by omega
      go_wp2_with fail
      clear l0 l1 l2 l3 l4 l5 l6 l7 h2 q2 h1 hrm hi' hBg hgs0 hTw H6 E6
      go_loopw [7, 9] (fun v iv wr => ∃ (i : Nat), iv = .int .i64 i ∧ i ≤ arms.length ∧ Hid (OwnPt (T + 1) v ((((a, d) :: partsEs args (d + 1)) ++ partsAs (arms.take i) (d + 1)).take m) wr) ∧ Fr [] w wr ∧ wr.heap[T]? = some (.cells #[.int .i64 k, .int .i64 a, .string ⟨nm.toArray⟩, .int .i64 n, .string ⟨s.toArray⟩, .slice A5 m5 cc5, .slice A6 args.length cc6, .slice A7 arms.length cc7] 27 (0, 0))) (fun _ iv _ => arms.length - (intOf iv).toNat)
      case atStart => exact ⟨0, rfl, by omega, Lib.hid (by rw [show partsAs (arms.take 0) (d + 1) = [] by simp [partsAs], List.append_nil]; exact HS1.out), f, q⟩
      case round =>
       clear HS1 f q
       obtain ⟨i, rfl, hi', HO, F, q⟩ := hrel
       have hTw := lt_of_heap q
       obtain ⟨⟨l0, l1, l2, l3, l4, l5, l6, l7⟩, _⟩ := cells8 q
       have hne : (((a, d) :: partsEs args (d + 1)) ++ partsAs (arms.take i) (d + 1)).take m ≠ [] := by
        obtain ⟨m', rfl⟩ : ∃ m', m = m' + 1 := ⟨m - 1, by omega⟩
        simp
       have hlm : ((((a, d) :: partsEs args (d + 1)) ++ partsAs (arms.take i) (d + 1)).take m).length ≤ m := by rw [List.length_take]; omega
       rcases HO.out.form with ⟨_, h⟩ | ⟨g0, c0, hv, hBg, hgs0, _⟩
       ·exact absurd h hne
       ·subst hv
        by_cases hlt : i < arms.length ∧ ((((a, d) :: partsEs args (d + 1)) ++ partsAs (arms.take i) (d + 1)).take m).length < m
        ·obtain ⟨hlt, hroom⟩ := hlt
         obtain ⟨p, y, hy⟩ : ∃ p y, arms[i]? = some (p, y) := ⟨(arms[i]).1, (arms[i]).2, List.getElem?_eq_getElem hlt⟩
         have HS : Hid (((((a, d) :: partsEs args (d + 1)) ++ partsAs (arms.take (i + 1)) (d + 1)).take m) = (((((a, d) :: partsEs args (d + 1)) ++ partsAs (arms.take i) (d + 1)).take m) ++ (partsP p (d + 1)).take (m - ((((a, d) :: partsEs args (d + 1)) ++ partsAs (arms.take i) (d + 1)).take m).length)) ++ (partsE y (d + 1)).take (m - (((((a, d) :: partsEs args (d + 1)) ++ partsAs (arms.take i) (d + 1)).take m) ++ (partsP p (d + 1)).take (m - ((((a, d) :: partsEs args (d + 1)) ++ partsAs (arms.take i) (d + 1)).take m).length)).length)) := Lib.hid (by
          rw [take_step, take_step, partsAs_take hy]
          simp only [List.append_assoc])
         have HY := Lib.hid hy
         have hlp : 1 ≤ ((((a, d) :: partsEs args (d + 1)) ++ partsAs (arms.take i) (d + 1)).take m).length := List.length_pos_iff.2 hne
         clear hy hne
         generalize (((a, d) :: partsEs args (d + 1)) ++ partsAs (arms.take i) (d + 1)).take m = L at *
         have hpx := E7.out i p y HY.out
         have hyx := E8.out i p y HY.out
         rcases H7.out with ⟨_, _, _, hl⟩ | ⟨g, og, c', hv, hg, hgs, hcs⟩
         ·omega
         ·cases hv
          obtain ⟨hcl, hcc⟩ := hcs i hlt
          have hcell : ∀ (W : World), Fr [] w W → ∀ (j : Nat) (v : Value), (cp i ++ ce i)[j]? = some v → W.cell? ⟨g, og + i * 15 + j, none⟩ = some v := fun W hW j v hj => (hW.cell (p := ⟨g, og + i * 15 + j, none⟩) (by simp; omega) (fun x => by cases x)).trans (hcc j v hj)
          have hgw : g < wr.heap.size := Nat.lt_of_lt_of_le hgs (by have := F.size; omega)
          generalize hci : cp i = ci at *
          generalize hce : ce i = cj at *
          have hpw := hpx.keep (w' := wr) (ok' := fun b => b < wr.heap.size) (Sh.of_fr F (fun b hb _ => ⟨by have := F.size; omega, fun x => by cases x⟩))
          have HYX := Lib.hid hyx
          cases hpx with
          | @mk k3 a3 nm3 n3 s3 ls3 args3 v53 v63 c53 c63 h53 e53 h63 e63 =>
          cases hyx with
          | @mk k2 a2 nm2 n2 s2 ls2 args2 arms2 v52 v62 v72 c52 c62 cp2 ce2 h52 e52 h62 e62 h72 e72 e82 =>
          have hf : ∃ A m cc, v53 = .slice A m cc := by obtain ⟨_, _, hv⟩ := h53.form; exact ⟨_, _, _, hv⟩
          obtain ⟨A53, m53, cc53, rfl⟩ := hf
          have hf : ∃ A m cc, v63 = .slice A m cc := by obtain ⟨_, _, hv⟩ := h63.form; exact ⟨_, _, _, hv⟩
          obtain ⟨A63, m63, cc63, rfl⟩ := hf
          have hf : ∃ A m cc, v52 = .slice A m cc := by obtain ⟨_, _, hv⟩ := h52.form; exact ⟨_, _, _, hv⟩
          obtain ⟨A52, m52, cc52, rfl⟩ := hf
          have hf : ∃ A m cc, v62 = .slice A m cc := by obtain ⟨_, _, hv⟩ := h62.form; exact ⟨_, _, _, hv⟩
          obtain ⟨A62, m62, cc62, rfl⟩ := hf
          have hf : ∃ A m cc, v72 = .slice A m cc := by obtain ⟨_, _, hv⟩ := h72.form; exact ⟨_, _, _, hv⟩
          obtain ⟨A72, m72, cc72, rfl⟩ := hf
          clear h52 e52 h62 e62 h72 e72 e82 h53 e53 h63 e63
          have x0 : wr.cell? ⟨g, og + i * 15, none⟩ = some (.int .i64 k3) := hcell wr F 0 _ rfl
          have x1 : wr.cell? ⟨g, og + i * 15 + 1, none⟩ = some (.int .i64 a3) := hcell wr F 1 _ rfl
          have x2 : wr.cell? ⟨g, og + i * 15 + 2, none⟩ = some (.string ⟨nm3.toArray⟩) := hcell wr F 2 _ rfl
          have x3 : wr.cell? ⟨g, og + i * 15 + 3, none⟩ = some (.int .i64 n3) := hcell wr F 3 _ rfl
          have x4 : wr.cell? ⟨g, og + i * 15 + 4, none⟩ = some (.string ⟨s3.toArray⟩) := hcell wr F 4 _ rfl
          have x5 : wr.cell? ⟨g, og + i * 15 + 5, none⟩ = some (.slice A53 m53 cc53) := hcell wr F 5 _ rfl
          have x6 : wr.cell? ⟨g, og + i * 15 + 6, none⟩ = some (.slice A63 m63 cc63) := hcell wr F 6 _ rfl
          have hsz2 := szAs_get HY.out
          have cP := Lib.hid (ppa_all (szP (.mk k3 a3 nm3 n3 s3 ls3 args3) + 1) k3 a3 nm3 n3 s3 ls3 args3 (.slice A53 m53 cc53) (.slice A63 m63 cc63) (d + 1) (D + 1) (m - L.length) ((m : Int) - (L.length : Int)) wr (by omega) (by rw [HD.out]; simp) (by have := HB.out; omega) (by omega) (HBD4.out i _ _ HY.out) hpw)
          have HC := Lib.hid hcell
          clear hcell hci hce hcc hcs hcl hpw hg
          have q1 : (0 : Int) ≤ (i : Int) := by omega
          have q2 : (i : Int) < (arms.length : Int) := by omega
          have q3 : (L.length : Int) < (m : Int) := by omega
          go_wp2_with fail
          refine cP.out.mono ?_
          rintro e w3 ⟨v3, rfl, O3, f3⟩
          clear cP x0 x1 x2 x3 x4 x5 x6 l0 l1 l2 l3 l4 l5 l6 l7
          have O0 := HO.out.fr f3
          replace q := f3.keep q (fun x => by cases x)
          replace F := F.trans f3
          have hcl : ((partsP (.mk k3 a3 nm3 n3 s3 ls3 args3) (d + 1)).take (m - L.length)).length ≤ m - L.length := by rw [List.length_take]; omega
          have hcn : (partsP (.mk k3 a3 nm3 n3 s3 ls3 args3) (d + 1)).take (m - L.length) ≠ [] := by
           rw [partsP_mk]
           obtain ⟨m', hm'⟩ : ∃ m', m - L.length = m' + 1 := ⟨m - L.length - 1, by omega⟩
           rw [hm']; simp
          generalize (partsP (.mk k3 a3 nm3 n3 s3 ls3 args3) (d + 1)).take (m - L.length) = C at *
          rcases O3.form with ⟨_, h⟩ | ⟨g3, c3, rfl, _, hg3, hnews⟩
          ·exact absurd h hcn
          ·clear f3
           have hi := HI.out
           have hz0 := HZ0.out
           have hz1 := HZ1.out
           have hz2 := HZ2.out
           go_wp2_with (at_builtin; refine wpList_append_fp _ rfl _ _ 33 rfl 36 i0 _ 2 16 Tryz.underlying33 hi hz0 hz1 hz2 rfl (by decide) _ _ _ rfl O0.1 ⟨g3, 0, none⟩ C.length c3 (ptsC C) rfl (ptsC_len _) ?c4a (ptsC_one _) ?c4b ?c4c ?_)
           case c4a => exact hnews
           case c4b => unfold maxLen; omega
           case c4c => omega
           intro v4 z4 hown4 hgrow4 hfp4
           obtain ⟨O4, F4, K4⟩ := OwnPt.app O0 (by have := F.size; have := lt_of_heap q; omega) hown4 hgrow4 hfp4
           replace q := K4 T _ (by omega) q
           replace F := F4 w F (by omega)
           clear hown4 hgrow4 hfp4 F4 K4 hi hz0 hz1 hz2
           clear O0 O3 hnews HO
           have hLCn : L ++ C ≠ [] := fun h => hcn (List.append_eq_nil_iff.1 h).2
           have hLC : (L ++ C).length ≤ m := by rw [List.length_append]; omega
           clear hcn hcl hlm hroom q3
           have hlp2 : 1 ≤ (L ++ C).length := by rw [List.length_append]; omega
           generalize L ++ C = L2 at *
           rcases O4.form with ⟨_, h⟩ | ⟨g4, c4, rfl, _, hg4, _⟩
           ·exact absurd h hLCn
           ·have HO4 := Lib.hid O4
            clear O4 hLCn
            have hTw := lt_of_heap q
            obtain ⟨⟨l0, l1, l2, l3, l4, l5, l6, l7⟩, _⟩ := cells8 q
            have y0 : z4.cell? ⟨g, og + i * 15 + 7, none⟩ = some (.int .i64 k2) := HC.out z4 F 7 _ rfl
            have y1 : z4.cell? ⟨g, og + i * 15 + 8, none⟩ = some (.int .i64 a2) := HC.out z4 F 8 _ rfl
            have y2 : z4.cell? ⟨g, og + i * 15 + 9, none⟩ = some (.string ⟨nm2.toArray⟩) := HC.out z4 F 9 _ rfl
            have y3 : z4.cell? ⟨g, og + i * 15 + 10, none⟩ = some (.int .i64 n2) := HC.out z4 F 10 _ rfl
            have y4 : z4.cell? ⟨g, og + i * 15 + 11, none⟩ = some (.string ⟨s2.toArray⟩) := HC.out z4 F 11 _ rfl
            have y5 : z4.cell? ⟨g, og + i * 15 + 12, none⟩ = some (.slice A52 m52 cc52) := HC.out z4 F 12 _ rfl
            have y6 : z4.cell? ⟨g, og + i * 15 + 13, none⟩ = some (.slice A62 m62 cc62) := HC.out z4 F 13 _ rfl
            have y7 : z4.cell? ⟨g, og + i * 15 + 14, none⟩ = some (.slice A72 m72 cc72) := HC.out z4 F 14 _ rfl
            have cE := Lib.hid (IH.out k2 a2 nm2 n2 s2 ls2 args2 arms2 (.slice A52 m52 cc52) (.slice A62 m62 cc62) (.slice A72 m72 cc72) (d + 1) (D + 1) (m - L2.length) ((m : Int) - (L2.length : Int)) z4 (by have := HN.out; omega) (by rw [HD.out]; simp) (by have := HB.out; omega) (by omega) (HBD5.out i _ _ HY.out) (HYX.out.keep (Sh.of_fr F (fun b hb _ => ⟨by have := F.size; omega, fun x => by cases x⟩))))
            have hgw4 : g < z4.heap.size := Nat.lt_of_lt_of_le hgs (by have := F.size; omega)
            have q3 : (L2.length : Int) ≤ (m : Int) := by omega
            go_wp2_with fail
            refine cE.out.mono ?_
            rintro e w5 ⟨v5, rfl, O5, f5⟩
            clear cE l0 l1 l2 l3 l4 l5 l6 l7 y0 y1 y2 y3 y4 y5 y6 y7
            have O6 := HO4.out.fr f5
            replace q := f5.keep q (fun x => by cases x)
            replace F := F.trans f5
            have hcl : ((partsE (.mk k2 a2 nm2 n2 s2 ls2 args2 arms2) (d + 1)).take (m - L2.length)).length ≤ m - L2.length := by rw [List.length_take]; omega
            generalize (partsE (.mk k2 a2 nm2 n2 s2 ls2 args2 arms2) (d + 1)).take (m - L2.length) = C2 at *
            rcases O5.form with ⟨rfl, hC2⟩ | ⟨g5, c5, rfl, _, hg5, hnews⟩
            ·subst hC2
             have hi := HI.out
             go_wp2_with (at_builtin; refine wpList_append_own_none rfl _ _ 33 rfl 0 36 i0 2 Tryz.underlying33 hi _ _ _ rfl O6.1 rfl ?_)
             have HO6 : Hid (OwnPt (T + 1) (.slice (some ⟨g4, 0, none⟩) L2.length c4) ((((a, d) :: partsEs args (d + 1)) ++ partsAs (arms.take (i + 1)) (d + 1)).take m) w5) := Lib.hid (by rw [HS.out, List.append_nil]; exact O6)
             clear O6 O5 HS hi
             go_wp2_with fail
             go_roundw
             case rel => exact ⟨i + 1, by go_num, by omega, HO6, F, q⟩
             case measure => simp [intOf]; omega
            ·clear f5
             have hi := HI.out
             have hz0 := HZ0.out
             have hz1 := HZ1.out
             have hz2 := HZ2.out
             go_wp2_with (at_builtin; refine wpList_append_fp _ rfl _ _ 33 rfl 36 i0 _ 2 16 Tryz.underlying33 hi hz0 hz1 hz2 rfl (by decide) _ _ _ rfl O6.1 ⟨g5, 0, none⟩ C2.length c5 (ptsC C2) rfl (ptsC_len _) ?c6a (ptsC_one _) ?c6b ?c6c ?_)
             case c6a => exact hnews
             case c6b => unfold maxLen; omega
             case c6c => omega
             intro v6 z6 hown6 hgrow6 hfp6
             obtain ⟨O6, F6, K6⟩ := OwnPt.app O6 (by have := F.size; have := lt_of_heap q; omega) hown6 hgrow6 hfp6
             replace q := K6 T _ (by omega) q
             replace F := F6 w F (by omega)
             clear hown6 hgrow6 hfp6 F6 K6 hi hz0 hz1 hz2
             have HO6 : Hid (OwnPt (T + 1) v6 ((((a, d) :: partsEs args (d + 1)) ++ partsAs (arms.take (i + 1)) (d + 1)).take m) z6) := Lib.hid (by rw [HS.out]; exact O6)
             clear O6 O5 HS hnews
             go_wp2_with fail
             go_roundw
             case rel => exact ⟨i + 1, by go_num, by omega, HO6, F, q⟩
             case measure => simp [intOf]; omega
        ·have HR : Hid (OwnPt T (.slice (some ⟨g0, 0, none⟩) ((((a, d) :: partsEs args (d + 1)) ++ partsAs (arms.take i) (d + 1)).take m).length c0) (((a, d) :: (partsEs args (d + 1) ++ partsAs arms (d + 1))).take m) wr) := Lib.hid (by
          have e : (((a, d) :: partsEs args (d + 1)) ++ partsAs (arms.take i) (d + 1)).take m = ((a, d) :: (partsEs args (d + 1) ++ partsAs arms (d + 1))).take m := by
           by_cases h1 : i < arms.length
           ·have h2 := take_full (((a, d) :: partsEs args (d + 1)) ++ partsAs (arms.take i) (d + 1)) (partsAs (arms.drop i) (d + 1)) m (Nat.le_of_not_lt fun h => hlt ⟨h1, h⟩)
            rw [h2, List.append_assoc, ← partsAs_app, List.take_append_drop, List.cons_append]
           ·have e3 : arms.take i = arms := List.take_of_length_le (by omega)
            rw [e3, List.cons_append]
          rw [← e]
          exact HO.out.weak (by omega))
         have hrm : i < arms.length → ¬ ((((a, d) :: partsEs args (d + 1)) ++ partsAs (arms.take i) (d + 1)).take m).length < m := fun h1 h => hlt ⟨h1, h⟩
         clear HO hne hlt
         generalize ((((a, d) :: partsEs args (d + 1)) ++ partsAs (arms.take i) (d + 1)).take m).length = r at *
         by_cases h1 : i < arms.length
         ·have h2 : ¬ (r : Int) < (m : Int) := by have := hrm h1; omega
          have q2 : (i : Int) < (arms.length : Int) := by omega
          go_wp2_with fail
          go_ret
          exact ⟨_, rfl, HR.out, F⟩
         ·have q2 : ¬ (i : Int) < (arms.length : Int) := by omega
          go_wp2_with fail
          go_ret
          exact ⟨_, rfl, HR.out, F⟩
     ·have q2 : ¬ (i : Int) < (args.length : Int) := by omega
      go_wp2_with fail
      clear l0 l1 l2 l3 l4 l5 l6 l7 q2 h1 hrm hi' hBg hgs0 hTw H6 E6
      go_loopw [7, 9] (fun v iv wr => ∃ (i : Nat), iv = .int .i64 i ∧ i ≤ arms.length ∧ Hid (OwnPt (T + 1) v ((((a, d) :: partsEs args (d + 1)) ++ partsAs (arms.take i) (d + 1)).take m) wr) ∧ Fr [] w wr ∧ wr.heap[T]? = some (.cells #[.int .i64 k, .int .i64 a, .string ⟨nm.toArray⟩, .int .i64 n, .string ⟨s.toArray⟩, .slice A5 m5 cc5, .slice A6 args.length cc6, .slice A7 arms.length cc7] 27 (0, 0))) (fun _ iv _ => arms.length - (intOf iv).toNat)
      case atStart => exact ⟨0, rfl, by omega, Lib.hid (by rw [show partsAs (arms.take 0) (d + 1) = [] by simp [partsAs], List.append_nil]; exact HS1.out), f, q⟩
      case round =>
       clear HS1 f q
       obtain ⟨i, rfl, hi', HO, F, q⟩ := hrel
       have hTw := lt_of_heap q
       obtain ⟨⟨l0, l1, l2, l3, l4, l5, l6, l7⟩, _⟩ := cells8 q
       have hne : (((a, d) :: partsEs args (d + 1)) ++ partsAs (arms.take i) (d + 1)).take m ≠ [] := by
        obtain ⟨m', rfl⟩ : ∃ m', m = m' + 1 := ⟨m - 1, by omega⟩
        simp
       have hlm : ((((a, d) :: partsEs args (d + 1)) ++ partsAs (arms.take i) (d + 1)).take m).length ≤ m := by rw [List.length_take]; omega
       rcases HO.out.form with ⟨_, h⟩ | ⟨g0, c0, hv, hBg, hgs0, _⟩
       ·exact absurd h hne
       ·subst hv
        by_cases hlt : i < arms.length ∧ ((((a, d) :: partsEs args (d + 1)) ++ partsAs (arms.take i) (d + 1)).take m).length < m
        ·obtain ⟨hlt, hroom⟩ := hlt
         obtain ⟨p, y, hy⟩ : ∃ p y, arms[i]? = some (p, y) := ⟨(arms[i]).1, (arms[i]).2, List.getElem?_eq_getElem hlt⟩
         have HS : Hid (((((a, d) :: partsEs args (d + 1)) ++ partsAs (arms.take (i + 1)) (d + 1)).take m) = (((((a, d) :: partsEs args (d + 1)) ++ partsAs (arms.take i) (d + 1)).take m) ++ (partsP p (d + 1)).take (m - ((((a, d) :: partsEs args (d + 1)) ++ partsAs (arms.take i) (d + 1)).take m).length)) ++ (partsE y (d + 1)).take (m - (((((a, d) :: partsEs args (d + 1)) ++ partsAs (arms.take i) (d + 1)).take m) ++ (partsP p (d + 1)).take (m - ((((a, d) :: partsEs args (d + 1)) ++ partsAs (arms.take i) (d + 1)).take m).length)).length)) := Lib.hid (by
          rw [take_step, take_step, partsAs_take hy]
          simp only [List.append_assoc])
         have HY := Lib.hid hy
         have hlp : 1 ≤ ((((a, d) :: partsEs args (d + 1)) ++ partsAs (arms.take i) (d + 1)).take m).length := List.length_pos_iff.2 hne
         clear hy hne
         generalize (((a, d) :: partsEs args (d + 1)) ++ partsAs (arms.take i) (d + 1)).take m = L at *
         have hpx := E7.out i p y HY.out
         have hyx := E8.out i p y HY.out
         rcases H7.out with ⟨_, _, _, hl⟩ | ⟨g, og, c', hv, hg, hgs, hcs⟩
         ·omega
         ·cases hv
          obtain ⟨hcl, hcc⟩ := hcs i hlt
          have hcell : ∀ (W : World), Fr [] w W → ∀ (j : Nat) (v : Value), (cp i ++ ce i)[j]? = some v → W.cell? ⟨g, og + i * 15 + j, none⟩ = some v := fun W hW j v hj => (hW.cell (p := ⟨g, og + i * 15 + j, none⟩) (by simp; omega) (fun x => by cases x)).trans (hcc j v hj)
          have hgw : g < wr.heap.size := Nat.lt_of_lt_of_le hgs (by have := F.size; omega)
          generalize hci : cp i = ci at *
          generalize hce : ce i = cj at *
          have hpw := hpx.keep (w' := wr) (ok' := fun b => b < wr.heap.size) (Sh.of_fr F (fun b hb _ => ⟨by have := F.size; omega, fun x => by cases x⟩))
          have HYX := Lib.hid hyx
          cases hpx with
          | @mk k3 a3 nm3 n3 s3 ls3 args3 v53 v63 c53 c63 h53 e53 h63 e63 =>
          cases hyx with
          | @mk k2 a2 nm2 n2 s2 ls2 args2 arms2 v52 v62 v72 c52 c62 cp2 ce2 h52 e52 h62 e62 h72 e72 e82 =>
          have hf : ∃ A m cc, v53 = .slice A m cc := by obtain ⟨_, _, hv⟩ := h53.form; exact ⟨_, _, _, hv⟩
          obtain ⟨A53, m53, cc53, rfl⟩ := hf
          have hf : ∃ A m cc, v63 = .slice A m cc := by obtain ⟨_, _, hv⟩ := h63.form; exact ⟨_, _, _, hv⟩
          obtain ⟨A63, m63, cc63, rfl⟩ := hf
          have hf : ∃ A m cc, v52 = .slice A m cc := by obtain ⟨_, _, hv⟩ := h52.form; exact ⟨_, _, _, hv⟩
          obtain ⟨A52, m52, cc52, rfl⟩ := hf
          have hf : ∃ A m cc, v62 = .slice A m cc := by obtain ⟨_, _, hv⟩ := h62.form; exact ⟨_, _, _, hv⟩
          obtain ⟨A62, m62, cc62, rfl⟩ := hf
          have hf : ∃ A m cc, v72 = .slice A m cc := by obtain ⟨_, _, hv⟩ := h72.form; exact ⟨_, _, _, hv⟩
          obtain ⟨A72, m72, cc72, rfl⟩ := hf
          clear h52 e52 h62 e62 h72 e72 e82 h53 e53 h63 e63
          have x0 : wr.cell? ⟨g, og + i * 15, none⟩ = some (.int .i64 k3) := hcell wr F 0 _ rfl
          have x1 : wr.cell? ⟨g, og + i * 15 + 1, none⟩ = some (.int .i64 a3) := hcell wr F 1 _ rfl
          have x2 : wr.cell? ⟨g, og + i * 15 + 2, none⟩ = some (.string ⟨nm3.toArray⟩) := hcell wr F 2 _ rfl
          have x3 : wr.cell? ⟨g, og + i * 15 + 3, none⟩ = some (.int .i64 n3) := hcell wr F 3 _ rfl
          have x4 : wr.cell? ⟨g, og + i * 15 + 4, none⟩ = some (.string ⟨s3.toArray⟩) := hcell wr F 4 _ rfl
          have x5 : wr.cell? ⟨g, og + i * 15 + 5, none⟩ = some (.slice A53 m53 cc53) := hcell wr F 5 _ rfl
          have x6 : wr.cell? ⟨g, og + i * 15 + 6, none⟩ = some (.slice A63 m63 cc63) := hcell wr F 6 _ rfl
          have hsz2 := szAs_get HY.out
          have cP := Lib.hid (ppa_all (szP (.mk k3 a3 nm3 n3 s3 ls3 args3) + 1) k3 a3 nm3 n3 s3 ls3 args3 (.slice A53 m53 cc53) (.slice A63 m63 cc63) (d + 1) (D + 1) (m - L.length) ((m : Int) - (L.length : Int)) wr (by omega) (by rw [HD.out]; simp) (by have := HB.out; omega) (by omega) (HBD4.out i _ _ HY.out) hpw)
          have HC := Lib.hid hcell
          clear hcell hci hce hcc hcs hcl hpw hg
          have q1 : (0 : Int) ≤ (i : Int) := by omega
          have q2 : (i : Int) < (arms.length : Int) := by omega
          have q3 : (L.length : Int) < (m : Int) := by omega
          go_wp2_with fail
          refine cP.out.mono ?_
          rintro e w3 ⟨v3, rfl, O3, f3⟩
          clear cP x0 x1 x2 x3 x4 x5 x6 l0 l1 l2 l3 l4 l5 l6 l7
          have O0 := HO.out.fr f3
          replace q := f3.keep q (fun x => by cases x)
          replace F := F.trans f3
          have hcl : ((partsP (.mk k3 a3 nm3 n3 s3 ls3 args3) (d + 1)).take (m - L.length)).length ≤ m - L.length := by rw [List.length_take]; omega
          have hcn : (partsP (.mk k3 a3 nm3 n3 s3 ls3 args3) (d + 1)).take (m - L.length) ≠ [] := by
           rw [partsP_mk]
           obtain ⟨m', hm'⟩ : ∃ m', m - L.length = m' + 1 := ⟨m - L.length - 1, by omega⟩
           rw [hm']; simp
          generalize (partsP (.mk k3 a3 nm3 n3 s3 ls3 args3) (d + 1)).take (m - L.length) = C at *
          rcases O3.form with ⟨_, h⟩ | ⟨g3, c3, rfl, _, hg3, hnews⟩
          ·exact absurd h hcn
          ·clear f3
           have hi := HI.out
           have hz0 := HZ0.out
           have hz1 := HZ1.out
           have hz2 := HZ2.out
           go_wp2_with (at_builtin; refine wpList_append_fp _ rfl _ _ 33 rfl 36 i0 _ 2 16 Tryz.underlying33 hi hz0 hz1 hz2 rfl (by decide) _ _ _ rfl O0.1 ⟨g3, 0, none⟩ C.length c3 (ptsC C) rfl (ptsC_len _) ?c4a (ptsC_one _) ?c4b ?c4c ?_)
           case c4a => exact hnews
           case c4b => unfold maxLen; omega
           case c4c => omega
           intro v4 z4 hown4 hgrow4 hfp4
           obtain ⟨O4, F4, K4⟩ := OwnPt.app O0 (by have := F.size; have := lt_of_heap q; omega) hown4 hgrow4 hfp4
           replace q := K4 T _ (by omega) q
           replace F := F4 w F (by omega)
           clear hown4 hgrow4 hfp4 F4 K4 hi hz0 hz1 hz2
           clear O0 O3 hnews HO
           have hLCn : L ++ C ≠ [] := fun h => hcn (List.append_eq_nil_iff.1 h).2
           have hLC : (L ++ C).length ≤ m := by rw [List.length_append]; omega
           clear hcn hcl hlm hroom q3
           have hlp2 : 1 ≤ (L ++ C).length := by rw [List.length_append]; omega
           generalize L ++ C = L2 at *
           rcases O4.form with ⟨_, h⟩ | ⟨g4, c4, rfl, _, hg4, _⟩
           ·exact absurd h hLCn
           ·have HO4 := Lib.hid O4
            clear O4 hLCn
            have hTw := lt_of_heap q
            obtain ⟨⟨l0, l1, l2, l3, l4, l5, l6, l7⟩, _⟩ := cells8 q
            have y0 : z4.cell? ⟨g, og + i * 15 + 7, none⟩ = some (.int .i64 k2) := HC.out z4 F 7 _ rfl
            have y1 : z4.cell? ⟨g, og + i * 15 + 8, none⟩ = some (.int .i64 a2) := HC.out z4 F 8 _ rfl
            have y2 : z4.cell? ⟨g, og + i * 15 + 9, none⟩ = some (.string ⟨nm2.toArray⟩) := HC.out z4 F 9 _ rfl
            have y3 : z4.cell? ⟨g, og + i * 15 + 10, none⟩ = some (.int .i64 n2) := HC.out z4 F 10 _ rfl
            have y4 : z4.cell? ⟨g, og + i * 15 + 11, none⟩ = some (.string ⟨s2.toArray⟩) := HC.out z4 F 11 _ rfl
            have y5 : z4.cell? ⟨g, og + i * 15 + 12, none⟩ = some (.slice A52 m52 cc52) := HC.out z4 F 12 _ rfl
            have y6 : z4.cell? ⟨g, og + i * 15 + 13, none⟩ = some (.slice A62 m62 cc62) := HC.out z4 F 13 _ rfl
            have y7 : z4.cell? ⟨g, og + i * 15 + 14, none⟩ = some (.slice A72 m72 cc72) := HC.out z4 F 14 _ rfl
            have cE := Lib.hid (IH.out k2 a2 nm2 n2 s2 ls2 args2 arms2 (.slice A52 m52 cc52) (.slice A62 m62 cc62) (.slice A72 m72 cc72) (d + 1) (D + 1) (m - L2.length) ((m : Int) - (L2.length : Int)) z4 (by have := HN.out; omega) (by rw [HD.out]; simp) (by have := HB.out; omega) (by omega) (HBD5.out i _ _ HY.out) (HYX.out.keep (Sh.of_fr F (fun b hb _ => ⟨by have := F.size; omega, fun x => by cases x⟩))))
            have hgw4 : g < z4.heap.size := Nat.lt_of_lt_of_le hgs (by have := F.size; omega)
            have q3 : (L2.length : Int) ≤ (m : Int) := by omega
            go_wp2_with fail
            refine cE.out.mono ?_
            rintro e w5 ⟨v5, rfl, O5, f5⟩
            clear cE l0 l1 l2 l3 l4 l5 l6 l7 y0 y1 y2 y3 y4 y5 y6 y7
            have O6 := HO4.out.fr f5
            replace q := f5.keep q (fun x => by cases x)
            replace F := F.trans f5
            have hcl : ((partsE (.mk k2 a2 nm2 n2 s2 ls2 args2 arms2) (d + 1)).take (m - L2.length)).length ≤ m - L2.length := by rw [List.length_take]; omega
            generalize (partsE (.mk k2 a2 nm2 n2 s2 ls2 args2 arms2) (d + 1)).take (m - L2.length) = C2 at *
            rcases O5.form with ⟨rfl, hC2⟩ | ⟨g5, c5, rfl, _, hg5, hnews⟩
            ·subst hC2
             have hi := HI.out
             go_wp2_with (at_builtin; refine wpList_append_own_none rfl _ _ 33 rfl 0 36 i0 2 Tryz.underlying33 hi _ _ _ rfl O6.1 rfl ?_)
             have HO6 : Hid (OwnPt (T + 1) (.slice (some ⟨g4, 0, none⟩) L2.length c4) ((((a, d) :: partsEs args (d + 1)) ++ partsAs (arms.take (i + 1)) (d + 1)).take m) w5) := Lib.hid (by rw [HS.out, List.append_nil]; exact O6)
             clear O6 O5 HS hi
             go_wp2_with fail
             go_roundw
             case rel => exact ⟨i + 1, by go_num, by omega, HO6, F, q⟩
             case measure => simp [intOf]; omega
            ·clear f5
             have hi := HI.out
             have hz0 := HZ0.out
             have hz1 := HZ1.out
             have hz2 := HZ2.out
             go_wp2_with (at_builtin; refine wpList_append_fp _ rfl _ _ 33 rfl 36 i0 _ 2 16 Tryz.underlying33 hi hz0 hz1 hz2 rfl (by decide) _ _ _ rfl O6.1 ⟨g5, 0, none⟩ C2.length c5 (ptsC C2) rfl (ptsC_len _) ?c6a (ptsC_one _) ?c6b ?c6c ?_)
             case c6a => exact hnews
             case c6b => unfold maxLen; omega
             case c6c => omega
             intro v6 z6 hown6 hgrow6 hfp6
             obtain ⟨O6, F6, K6⟩ := OwnPt.app O6 (by have := F.size; have := lt_of_heap q; omega) hown6 hgrow6 hfp6
             replace q := K6 T _ (by omega) q
             replace F := F6 w F (by omega)
             clear hown6 hgrow6 hfp6 F6 K6 hi hz0 hz1 hz2
             have HO6 : Hid (OwnPt (T + 1) v6 ((((a, d) :: partsEs args (d + 1)) ++ partsAs (arms.take (i + 1)) (d + 1)).take m) z6) := Lib.hid (by rw [HS.out]; exact O6)
             clear O6 O5 HS hnews
             go_wp2_with fail
             go_roundw
             case rel => exact ⟨i + 1, by go_num, by omega, HO6, F, q⟩
             case measure => simp [intOf]; omega
        ·have HR : Hid (OwnPt T (.slice (some ⟨g0, 0, none⟩) ((((a, d) :: partsEs args (d + 1)) ++ partsAs (arms.take i) (d + 1)).take m).length c0) (((a, d) :: (partsEs args (d + 1) ++ partsAs arms (d + 1))).take m) wr) := Lib.hid (by
          have e : (((a, d) :: partsEs args (d + 1)) ++ partsAs (arms.take i) (d + 1)).take m = ((a, d) :: (partsEs args (d + 1) ++ partsAs arms (d + 1))).take m := by
           by_cases h1 : i < arms.length
           ·have h2 := take_full (((a, d) :: partsEs args (d + 1)) ++ partsAs (arms.take i) (d + 1)) (partsAs (arms.drop i) (d + 1)) m (Nat.le_of_not_lt fun h => hlt ⟨h1, h⟩)
            rw [h2, List.append_assoc, ← partsAs_app, List.take_append_drop, List.cons_append]
           ·have e3 : arms.take i = arms := List.take_of_length_le (by omega)
            rw [e3, List.cons_append]
          rw [← e]
          exact HO.out.weak (by omega))
         have hrm : i < arms.length → ¬ ((((a, d) :: partsEs args (d + 1)) ++ partsAs (arms.take i) (d + 1)).take m).length < m := fun h1 h => hlt ⟨h1, h⟩
         clear HO hne hlt
         generalize ((((a, d) :: partsEs args (d + 1)) ++ partsAs (arms.take i) (d + 1)).take m).length = r at *
         by_cases h1 : i < arms.length
         ·have h2 : ¬ (r : Int) < (m : Int) := by have := hrm h1; omega
          have q2 : (i : Int) < (arms.length : Int) := by omega
          go_wp2_with fail
          go_ret
          exact ⟨_, rfl, HR.out, F⟩
         ·have q2 : ¬ (i : Int) < (arms.length : Int) := by omega
          go_wp2_with fail
          go_ret
          exact ⟨_, rfl, HR.out, F⟩
theorem pxa_all : ∀ N, PXA N
 | 0 => fun _ _ _ _ _ _ _ _ _ _ _ _ _ _ _ _ h => absurd h (Nat.not_lt_zero _)
 | N + 1 => pxa_step N (pxa_all N)
end Go.Proofs.YtpjkfeehgookkaaGreatDoor
namespace Go.Proofs.YtpjkfeehgookkaaGreatDoor
open Go.RowKit
attribute [local go_sem ↓] Go.wp_at_zero Go.wp_at_succ
theorem ptsC_at : ∀ (l : List (Int × Nat)) (i : Nat) (q : Int × Nat), l[i]? = some q → (ptsC l)[i * 2]? = some (.int .i64 q.1) ∧ (ptsC l)[i * 2 + 1]? = some (.int .i64 (q.2 : Int))
 | [], i, q, h => by simp at h
 | p :: l, 0, q, h => by
  simp at h; subst h
  exact ⟨rfl, rfl⟩
 | p :: l, i + 1, q, h => by
  have h' : l[i]? = some q := by simpa using h
  obtain ⟨h1, h2⟩ := ptsC_at l i q h'
  rw [show ptsC (p :: l) = ptC p ++ ptsC l from rfl, show (i + 1) * 2 = i * 2 + 2 by omega, show i * 2 + 2 + 1 = i * 2 + 1 + 2 by omega]
  exact ⟨h1, h2⟩
theorem OwnPt.at_ {B g n c : Nat} {l : List (Int × Nat)} {w : World} (h : OwnPt B (.slice (some ⟨g, 0, none⟩) n c) l w) {i : Nat} {q : Int × Nat} (hi : l[i]? = some q) : w.cell? ⟨g, i * 2, none⟩ = some (.int .i64 q.1) ∧ w.cell? ⟨g, i * 2 + 1, none⟩ = some (.int .i64 (q.2 : Int)) := by
 obtain ⟨h1, h2⟩ := ptsC_at l i q hi
 have k1 := h.1.cells (g := g) rfl _ _ h1
 have k2 := h.1.cells (g := g) rfl _ _ h2
 have e : ∀ j, (⟨g, 0, none⟩ : Addr).add j = ⟨g, j, none⟩ := fun j => by
  unfold Addr.add
  split
  ·rename_i h; rw [h]
  ·simp
 rw [e] at k1 k2
 exact ⟨k1, k2⟩
end Go.Proofs.YtpjkfeehgookkaaGreatDoor
namespace Go.Proofs.YtpjkfeehgookkaaGreatDoor
open Go.RowKit
attribute [local go_sem ↓] Go.wp_at_zero Go.wp_at_succ
def fndD (deep : Int) (l : List (Int × Nat)) : Int × Bool := match l.find? (fun p => decide (deep < (p.2 : Int))) with
 | some p => (p.1, true)
 | none => (0, false)
theorem fndD_snoc (deep : Int) (l : List (Int × Nat)) (q : Int × Nat) : fndD deep (l ++ [q]) = if (fndD deep l).2 = true then fndD deep l else if deep < (q.2 : Int) then (q.1, true) else fndD deep l := by
 unfold fndD
 rw [List.find?_append]
 cases h : l.find? (fun p => decide (deep < (p.2 : Int))) with
 | some p => simp
 | none =>
  by_cases hd : deep < (q.2 : Int)
  ·simp [List.find?_cons, hd]
  ·simp [List.find?_cons, hd]
set_option maxHeartbeats 2000000 in
set_option maxRecDepth 100000 in
theorem Count_neg (k a : Int) (nm : List UInt8) (n : Int) (s : List UInt8) (v5 v6 v7 : Value) (most : Int) (hm0 : most < 0) (w : World) :
  Calls Tryz.prog 17 #[.agg #[.int .i64 k, .int .i64 a, .string ⟨nm.toArray⟩, .int .i64 n, .string ⟨s.toArray⟩, v5, v6, v7], .int .i64 most] w fun e w' => e = .returned (.int .i64 0) ∧ Fr [] w w' := by
 have d0 : ¬ (0 ≤ most) := by omega
 go_enter Tryz.func17, Tryz.ntmps17
 go_wp2_with fail
 go_ret
 exact ⟨rfl, ((((Fr.refl [] w).alloc _).alloc _).alloc _)⟩
theorem Deep_fnd (k a : Int) (nm : List UInt8) (n : Int) (s : List UInt8) (ls : List (List UInt8)) (args : List ExprT) (arms : List (PatT × ExprT)) (A5 : Option Addr) (m5 cc5 : Nat) (A6 : Option Addr) (m6 cc6 : Nat) (A7 : Option Addr) (m7 cc7 : Nat) (most : Int) (w : World) (hx : ExprAt w (fun b => b < w.heap.size) (.mk k a nm n s ls args arms) [.int .i64 k, .int .i64 a, .string ⟨nm.toArray⟩, .int .i64 n, .string ⟨s.toArray⟩, .slice A5 m5 cc5, .slice A6 m6 cc6, .slice A7 m7 cc7]) (hsz : szE (.mk k a nm n s ls args arms) ≤ 1099511627775) :
  Calls Tryz.prog 16 #[.agg #[.int .i64 k, .int .i64 a, .string ⟨nm.toArray⟩, .int .i64 n, .string ⟨s.toArray⟩, .slice A5 m5 cc5, .slice A6 m6 cc6, .slice A7 m7 cc7], .int .i64 most] w fun e w' => e = .returned (.tuple #[.int .i64 (fndD most (partsE (.mk k a nm n s ls args arms) 1)).1, .bool (fndD most (partsE (.mk k a nm n s ls args arms) 1)).2]) ∧ Fr [] w w' := by
 refine (Deep_any k a nm n s ls args arms A5 m5 cc5 A6 m6 cc6 A7 m7 cc7 most w hx hsz).mono ?_
 rintro e w' ⟨he, hf⟩
 refine ⟨?_, hf⟩
 rw [he]
 unfold deepOf fndD
 cases (partsE (.mk k a nm n s ls args arms) 1).find? (fun p => decide (most < (p.2 : Int))) <;> rfl
set_option maxHeartbeats 16000000 in
set_option maxRecDepth 100000 in
theorem ParseCounts_walk (k1 a1 : Int) (nm1 : List UInt8) (n1 : Int) (s1 : List UInt8) (ls1 : List (List UInt8)) (args1 : List ExprT) (arms1 : List (PatT × ExprT)) (A51 : Option Addr) (n51 c51 : Nat) (A61 : Option Addr) (n61 c61 : Nat) (A71 : Option Addr) (n71 c71 : Nat) (most deep : Int) (hm1 : -9223372036854775808 ≤ most) (w : World) (hE : EnvL w)
  (hx : ExprAt w (fun b => b < w.heap.size) (.mk k1 a1 nm1 n1 s1 ls1 args1 arms1) [.int .i64 k1, .int .i64 a1, .string ⟨nm1.toArray⟩, .int .i64 n1, .string ⟨s1.toArray⟩, .slice A51 n51 c51, .slice A61 n61 c61, .slice A71 n71 c71]) (hbd : BdE 4398046511104 (.mk k1 a1 nm1 n1 s1 ls1 args1 arms1)) :
  Calls Tryz.prog 4 #[.agg #[.int .i64 k1, .int .i64 a1, .string ⟨nm1.toArray⟩, .int .i64 n1, .string ⟨s1.toArray⟩, .slice A51 n51 c51, .slice A61 n61 c61, .slice A71 n71 c71], .int .i64 most, .int .i64 deep] w fun e w' => e = .returned (.bool true) ∧ Fr [] w w' := by
 have HE := Lib.hid hE
 have HBD := Lib.hid hbd
 have cA := fun w hE => Lib.hid (awake6_any w hE)
 have q1 := heap_new w (.cells #[.int .i64 k1, .int .i64 a1, .string ⟨nm1.toArray⟩, .int .i64 n1, .string ⟨s1.toArray⟩, .slice A51 n51 c51, .slice A61 n61 c61, .slice A71 n71 c71] 27)
 have fb1 := (Fr.refl [] w).alloc (.cells #[.int .i64 k1, .int .i64 a1, .string ⟨nm1.toArray⟩, .int .i64 n1, .string ⟨s1.toArray⟩, .slice A51 n51 c51, .slice A61 n61 c61, .slice A71 n71 c71] 27)
 have HX1 := Lib.hid (hx.fr fb1)
 have HM := Lib.hid hm1
 clear hE hx hbd hm1
 go_enter Tryz.func4, Tryz.ntmps4
 go_wp2_with fail
 generalize w.alloc (.cells #[.int .i64 k1, .int .i64 a1, .string ⟨nm1.toArray⟩, .int .i64 n1, .string ⟨s1.toArray⟩, .slice A51 n51 c51, .slice A61 n61 c61, .slice A71 n71 c71] 27) = y1 at *
 generalize w.heap.size = T1 at *
 refine (cA _ (HE.out.fr fb1)).out.mono ?_; rintro e w5 ⟨rfl, f5⟩
 replace HX1 := Lib.hid (HX1.out.fr f5)
 replace q1 := f5.keep q1 (fun x => by cases x)
 have F := fb1.trans f5
 clear fb1 f5
 have hT1 := lt_of_heap q1
 obtain ⟨⟨l10, l11, l12, l13, l14, l15, l16, l17⟩, _⟩ := cells8 q1
 by_cases hmg : 8192 < most
 ·go_wp2_with fail
  go_ret
  exact ⟨rfl, F⟩
 ·have cP := Lib.hid (pxa_all _ k1 a1 nm1 n1 s1 ls1 args1 arms1 (.slice A51 n51 c51) (.slice A61 n61 c61) (.slice A71 n71 c71) 1 1 8193 8193 w5 (Nat.lt_succ_self _) rfl (by omega) rfl HBD.out HX1.out)
  go_wp2_with fail
  refine cP.out.mono ?_
  rintro e w6 ⟨v6, rfl, O6, f6⟩
  clear cP l10 l11 l12 l13 l14 l15 l16 l17
  replace HX1 := Lib.hid (HX1.out.fr f6)
  replace q1 := f6.keep q1 (fun x => by cases x)
  replace F := F.trans f6
  clear f6 hT1
  have hT1 := lt_of_heap q1
  obtain ⟨⟨l10, l11, l12, l13, l14, l15, l16, l17⟩, _⟩ := cells8 q1
  have hne : (partsE (.mk k1 a1 nm1 n1 s1 ls1 args1 arms1) 1).take 8193 ≠ [] := by rw [partsE_mk]; simp
  rcases O6.form with ⟨_, h⟩ | ⟨g2, c2, rfl, _, hg2, _⟩
  ·exact absurd h hne
  ·clear hne
   have hln : (partsE (.mk k1 a1 nm1 n1 s1 ls1 args1 arms1) 1).length = szE (.mk k1 a1 nm1 n1 s1 ls1 args1 arms1) := partsE_len _ _
   by_cases hbig : 8192 < ((partsE (.mk k1 a1 nm1 n1 s1 ls1 args1 arms1) 1).take 8193).length
   ·generalize ((partsE (.mk k1 a1 nm1 n1 s1 ls1 args1 arms1) 1).take 8193).length = L at *
    have hb2 : (8192 : Int) < (L : Int) := by omega
    go_wp2_with fail
    go_ret
    exact ⟨rfl, F⟩
   ·have hsz : szE (.mk k1 a1 nm1 n1 s1 ls1 args1 arms1) ≤ 8192 := by rw [List.length_take] at hbig; omega
    have etk : (partsE (.mk k1 a1 nm1 n1 s1 ls1 args1 arms1) 1).take 8193 = partsE (.mk k1 a1 nm1 n1 s1 ls1 args1 arms1) 1 := List.take_of_length_le (by omega)
    rw [etk] at O6 ⊢
    rw [hln] at O6 ⊢
    clear etk hbig
    have HO := Lib.hid O6
    have HLN := Lib.hid hln
    have HSZ := Lib.hid hsz
    clear O6 hln
    have cD := fun w' hx => Lib.hid (Deep_fnd k1 a1 nm1 n1 s1 ls1 args1 arms1 A51 n51 c51 A61 n61 c61 A71 n71 c71 deep w' hx (by have := HSZ.out; omega))
    have cC0 := fun h w' => Lib.hid (Count_neg k1 a1 nm1 n1 s1 (.slice A51 n51 c51) (.slice A61 n61 c61) (.slice A71 n71 c71) most h w')
    have cC1 := fun h0 h1 w' hx => Lib.hid (Count_any k1 a1 nm1 n1 s1 ls1 args1 arms1 A51 n51 c51 A61 n61 c61 A71 n71 c71 most h0 h1 w' hx (by have := HSZ.out; omega))
    generalize szE (.mk k1 a1 nm1 n1 s1 ls1 args1 arms1) = N at *
    have hd1 : ¬ (8192 : Int) < (N : Int) := by omega
    have hmo : ¬ (8192 : Int) < most := by omega
    clear hmg
    have hmm := HM.out
    by_cases hneg : most < 0
    ·have hnn := hneg
     go_wp2_with fail
     go_loopw [9, 10, 32] (fun av bv iv wr => ∃ (i : Nat) (A : Int) (B : Bool), av = .int .i64 A ∧ bv = .bool B ∧ iv = .int .i64 i ∧ i ≤ N ∧ Hid ((A, B) = fndD deep ((partsE (.mk k1 a1 nm1 n1 s1 ls1 args1 arms1) 1).take i)) ∧ ∃ nd, wr = w6.drewN nd) (fun _ _ iv _ => N - (intOf iv).toNat)
     case atStart => exact ⟨0, 0, false, rfl, rfl, rfl, by omega, Lib.hid rfl, 0, rfl⟩
     case round =>
      obtain ⟨i, A, B, rfl, rfl, rfl, hi, HA, nd, rfl⟩ := hrel
      by_cases hlt : i < N
      ·have hil : i < (partsE (.mk k1 a1 nm1 n1 s1 ls1 args1 arms1) 1).length := by rw [HLN.out]; exact hlt
       obtain ⟨⟨pa, pd⟩, hq⟩ : ∃ q, (partsE (.mk k1 a1 nm1 n1 s1 ls1 args1 arms1) 1)[i]? = some q := ⟨_, List.getElem?_eq_getElem hil⟩
       obtain ⟨p0, p1⟩ := HO.out.at_ hq
       have HB : Hid (fndD deep ((partsE (.mk k1 a1 nm1 n1 s1 ls1 args1 arms1) 1).take (i + 1)) = if B = true then (A, B) else if deep < (pd : Int) then (pa, true) else (A, B)) := Lib.hid (by
        have e : (partsE (.mk k1 a1 nm1 n1 s1 ls1 args1 arms1) 1)[i] = (pa, pd) := (List.getElem?_eq_some_iff.1 hq).2
        rw [List.take_succ_eq_append_getElem hil, e, fndD_snoc, ← HA.out])
       clear hq hil HA
       simp only at p0 p1
       cases B with
       | true =>
        by_cases hdp : deep < (pd : Int)
        all_goals
         go_wp2_with fail
         go_roundw
         case rel => exact ⟨i + 1, A, true, rfl, rfl, by go_num, by omega, Lib.hid (by rw [HB.out, if_pos rfl]), _, rfl⟩
         case measure => simp [intOf]; omega
       | false =>
        by_cases hdp : deep < (pd : Int)
        ·have HB2 := Lib.hid hdp
         go_wp2_with fail
         go_roundw
         case rel => exact ⟨i + 1, pa, true, rfl, rfl, by go_num, by omega, Lib.hid (by rw [HB.out, if_neg (by decide), if_pos HB2.out]), _, rfl⟩
         case measure => simp [intOf]; omega
        ·have HB2 := Lib.hid hdp
         go_wp2_with fail
         go_roundw
         case rel => exact ⟨i + 1, A, false, rfl, rfl, by go_num, by omega, Lib.hid (by rw [HB.out, if_neg (by decide), if_neg HB2.out]), _, rfl⟩
         case measure => simp [intOf]; omega
      ·have hA := HA.out
       rw [List.take_of_length_le (by rw [HLN.out]; omega)] at hA
       rw [← hA] at cD
       clear hA HA
       go_wp2_with fail
       refine (cD _ (HX1.out.fr ((Fr.refl [] w6).drewN nd))).out.mono ?_
       rintro e w7 ⟨rfl, f7⟩
       replace HX1 := Lib.hid ((HX1.out.fr ((Fr.refl [] w6).drewN nd)).fr f7)
       replace q1 := f7.keep (((Fr.refl [] w6).drewN nd).keep q1 (fun x => by cases x)) (fun x => by cases x)
       replace F := (F.drewN nd).trans f7
       clear f7 hT1 l10 l11 l12 l13 l14 l15 l16 l17
       have hT1 := lt_of_heap q1
       obtain ⟨⟨l10, l11, l12, l13, l14, l15, l16, l17⟩, _⟩ := cells8 q1
       go_wp2_with fail
       refine (cC0 hneg _).out.mono ?_
       rintro e w8 ⟨rfl, f8⟩
       go_wp2_with fail
       go_ret
       exact ⟨rfl, F.trans f8⟩
    ·have hnn : ¬ most < 0 := hneg
     go_wp2_with fail
     go_loopw [9, 10, 32] (fun av bv iv wr => ∃ (i : Nat) (A : Int) (B : Bool), av = .int .i64 A ∧ bv = .bool B ∧ iv = .int .i64 i ∧ i ≤ N ∧ Hid ((A, B) = fndD deep ((partsE (.mk k1 a1 nm1 n1 s1 ls1 args1 arms1) 1).take i)) ∧ ∃ nd, wr = w6.drewN nd) (fun _ _ iv _ => N - (intOf iv).toNat)
     case atStart => exact ⟨0, 0, false, rfl, rfl, rfl, by omega, Lib.hid rfl, 0, rfl⟩
     case round =>
      obtain ⟨i, A, B, rfl, rfl, rfl, hi, HA, nd, rfl⟩ := hrel
      by_cases hlt : i < N
      ·have hil : i < (partsE (.mk k1 a1 nm1 n1 s1 ls1 args1 arms1) 1).length := by rw [HLN.out]; exact hlt
       obtain ⟨⟨pa, pd⟩, hq⟩ : ∃ q, (partsE (.mk k1 a1 nm1 n1 s1 ls1 args1 arms1) 1)[i]? = some q := ⟨_, List.getElem?_eq_getElem hil⟩
       obtain ⟨p0, p1⟩ := HO.out.at_ hq
       have HB : Hid (fndD deep ((partsE (.mk k1 a1 nm1 n1 s1 ls1 args1 arms1) 1).take (i + 1)) = if B = true then (A, B) else if deep < (pd : Int) then (pa, true) else (A, B)) := Lib.hid (by
        have e : (partsE (.mk k1 a1 nm1 n1 s1 ls1 args1 arms1) 1)[i] = (pa, pd) := (List.getElem?_eq_some_iff.1 hq).2
        rw [List.take_succ_eq_append_getElem hil, e, fndD_snoc, ← HA.out])
       clear hq hil HA
       simp only at p0 p1
       cases B with
       | true =>
        by_cases hdp : deep < (pd : Int)
        all_goals
         go_wp2_with fail
         go_roundw
         case rel => exact ⟨i + 1, A, true, rfl, rfl, by go_num, by omega, Lib.hid (by rw [HB.out, if_pos rfl]), _, rfl⟩
         case measure => simp [intOf]; omega
       | false =>
        by_cases hdp : deep < (pd : Int)
        ·have HB2 := Lib.hid hdp
         go_wp2_with fail
         go_roundw
         case rel => exact ⟨i + 1, pa, true, rfl, rfl, by go_num, by omega, Lib.hid (by rw [HB.out, if_neg (by decide), if_pos HB2.out]), _, rfl⟩
         case measure => simp [intOf]; omega
        ·have HB2 := Lib.hid hdp
         go_wp2_with fail
         go_roundw
         case rel => exact ⟨i + 1, A, false, rfl, rfl, by go_num, by omega, Lib.hid (by rw [HB.out, if_neg (by decide), if_neg HB2.out]), _, rfl⟩
         case measure => simp [intOf]; omega
      ·have hA := HA.out
       rw [List.take_of_length_le (by rw [HLN.out]; omega)] at hA
       rw [← hA] at cD
       clear hA HA
       go_wp2_with fail
       refine (cD _ (HX1.out.fr ((Fr.refl [] w6).drewN nd))).out.mono ?_
       rintro e w7 ⟨rfl, f7⟩
       replace HX1 := Lib.hid ((HX1.out.fr ((Fr.refl [] w6).drewN nd)).fr f7)
       replace q1 := f7.keep (((Fr.refl [] w6).drewN nd).keep q1 (fun x => by cases x)) (fun x => by cases x)
       replace F := (F.drewN nd).trans f7
       clear f7 hT1 l10 l11 l12 l13 l14 l15 l16 l17
       have hT1 := lt_of_heap q1
       obtain ⟨⟨l10, l11, l12, l13, l14, l15, l16, l17⟩, _⟩ := cells8 q1
       go_wp2_with fail
       refine (cC1 (by omega) (by omega) _ HX1.out).out.mono ?_
       rintro e w8 ⟨rfl, f8⟩
       go_wp2_with fail
       go_ret
       exact ⟨rfl, F.trans f8⟩
end Go.Proofs.YtpjkfeehgookkaaGreatDoor
namespace Go.Proofs.YtpjkfeehgookkaaGreatDoor
open Go.RowKit Go.Deep
def inI64 (n : Int) : Prop := (Lit.int .i64 n).wf = true
inductive WtP : PatT → Prop
 | mk {k a nm n s ls args} (hk : inI64 k ∧ inI64 a ∧ inI64 n) (h1 : nm.length ≤ reachBytes) (h2 : s.length ≤ reachBytes) (h3 : ls.length * 16 ≤ reachBytes) (h4 : ∀ (i : Nat) (x : List UInt8), ls[i]? = some x → x.length ≤ reachBytes) (h5 : args.length * 104 ≤ reachBytes) (h6 : ∀ (i : Nat) (x : PatT), args[i]? = some x → WtP x) : WtP (.mk k a nm n s ls args)
inductive WtE : ExprT → Prop
 | mk {k a nm n s ls args arms} (hk : inI64 k ∧ inI64 a ∧ inI64 n) (h1 : nm.length ≤ reachBytes) (h2 : s.length ≤ reachBytes) (h3 : ls.length * 16 ≤ reachBytes) (h4 : ∀ (i : Nat) (x : List UInt8), ls[i]? = some x → x.length ≤ reachBytes) (h5 : args.length * 128 ≤ reachBytes) (h6 : ∀ (i : Nat) (x : ExprT), args[i]? = some x → WtE x) (h7 : arms.length * 232 ≤ reachBytes) (h8 : ∀ (i : Nat) (p : PatT) (x : ExprT), arms[i]? = some (p, x) → WtP p) (h9 : ∀ (i : Nat) (p : PatT) (x : ExprT), arms[i]? = some (p, x) → WtE x) : WtE (.mk k a nm n s ls args arms)
instance : Inhabited PatT := ⟨.zero⟩
instance : Inhabited ExprT := ⟨.zero⟩
theorem len2 {α : Type} : ∀ {l : List α}, l.length = 2 → ∃ a b, l = [a, b]
 | [a, b], _ => ⟨a, b, rfl⟩
theorem len7 {α : Type} : ∀ {l : List α}, l.length = 7 → ∃ a b c d e f g, l = [a, b, c, d, e, f, g]
 | [a, b, c, d, e, f, g], _ => ⟨a, b, c, d, e, f, g, rfl⟩
theorem len8 {α : Type} : ∀ {l : List α}, l.length = 8 → ∃ a b c d e f g h, l = [a, b, c, d, e, f, g, h]
 | [a, b, c, d, e, f, g, h], _ => ⟨a, b, c, d, e, f, g, h, rfl⟩
theorem addr_add (b o k : Nat) : (⟨b, o, none⟩ : Addr).add k = ⟨b, o + k, none⟩ := by
 unfold Addr.add
 by_cases h : k = 0
 ·subst h; simp
 ·simp [h]
theorem weightsAll_get {H : Type} {P : Program} {e : TypeId} : ∀ {l : List (DataW H)}, (DataW.weightsAll P e l).all (· ≤ reachBytes) = true → ∀ (i : Nat) (d : DataW H), l[i]? = some d → (d.weights P e).all (· ≤ reachBytes) = true
 | [], _, i, d, h => by simp at h
 | x :: l, hw, i, d, h => by
  simp only [DataW.weightsAll, List.all_append, Bool.and_eq_true] at hw
  cases i with
  | zero => simp at h; subst h; exact hw.1
  | succ i => exact weightsAll_get hw.2 i d (by simpa using h)
section
variable {H : Type} {enc : TypeId × Value → H} {w : World}
theorem open_sl {α : Type} [Inhabited α] {P : Program} {t e : TypeId} (ht : P.underlying t = some (.slice e)) (size bytes : Nat) (hs : P.cellsOf e = size) (hs0 : 0 < size) (hby : P.bytesOf e = bytes) (E : α → List Value → Prop) (Wt : α → Prop) {fuel : Nat} {cs : List Value} {x : DataW H × List MemPlace}
  (h : DataW.trod enc P w 0 (fun _ => true) true fuel t cs = some x)
  (hel : ∀ n, n < fuel → ∀ cs' y, DataW.trod enc P w 0 (fun _ => true) true n e cs' = some y → ∃ z : α, E z cs' ∧ ((y.1.weights P e).all (· ≤ reachBytes) = true → Wt z)) :
  ∃ (v : Value) (xs : List α) (c : Nat → List Value), cs = [v] ∧ SlAt w (fun b => b < w.heap.size) v xs.length size c ∧ (∀ (i : Nat) (z : α), xs[i]? = some z → E z (c i)) ∧
   ((x.1.weights P t).all (· ≤ reachBytes) = true → xs.length * bytes ≤ reachBytes ∧ ∀ (i : Nat) (z : α), xs[i]? = some z → Wt z) := by
 rcases DataW.trod_slice ht h with ⟨rfl, rfl⟩ | ⟨a, len, cap, elems, rest, n, rfl, rfl, rfl, _, hlc, _, hlen, hi, _, _⟩
 ·exact ⟨_, [], fun _ => [], rfl, SlAt.nil_ _ _ _ _, fun i z hz => by simp at hz, fun _ => ⟨by simp, fun i z hz => by simp at hz⟩⟩
 ·have each : ∀ i, i < len → ∃ q : List Value × α, w.cells? 0 (a.add (i * size)) size = some q.1 ∧ E q.2 q.1 ∧ (∀ d, elems[i]? = some d → (d.1.weights P e).all (· ≤ reachBytes) = true → Wt q.2) := fun i hlt => by
   have := hi i hlt
   rw [hs] at this
   obtain ⟨d, hd⟩ : ∃ d, elems[i]? = some d := ⟨elems[i], List.getElem?_eq_getElem (by omega)⟩
   rw [hd] at this
   obtain ⟨cs', h1, h2⟩ := Option.bind_eq_some_iff.1 this
   obtain ⟨z, hz1, hz2⟩ := hel n (Nat.lt_succ_self n) cs' d h2
   exact ⟨(cs', z), h1, hz1, fun d' hd' hw => by rw [hd] at hd'; cases hd'; exact hz2 hw⟩
  obtain ⟨q, hq⟩ := choose_lt each
  refine ⟨_, (List.range len).map (fun i => (q i).2), fun i => (q i).1, rfl, ?_, fun i z hz => ?_, fun hw => ?_⟩
  ·rw [List.length_map, List.length_range]
   by_cases h0 : len = 0
   ·subst h0
    exact .inl ⟨_, _, rfl, rfl⟩
   ·obtain ⟨b, o, sp⟩ := a
    have hc0 := (World.cells?_some (hq 0 (by omega)).1)
    obtain ⟨v, hv⟩ : ∃ v, (q 0).1[0]? = some v := ⟨(q 0).1[0]'(by rw [hc0.2.1]; exact hs0), List.getElem?_eq_getElem _⟩
    have hcc := hc0.2.2 0 hs0
    rw [hv] at hcc
    have e0 : ((⟨b, o, sp⟩ : Addr).add (0 * size)).add 0 = ⟨b, o, sp⟩ := by simp [Addr.add]
    rw [e0] at hcc
    have hsp : sp = none := World.cell?_spot hcc
    subst hsp
    have hb : b < w.heap.size := by
     unfold World.cell? at hcc
     rcases Nat.lt_or_ge b w.heap.size with h1 | h1
     ·exact h1
     ·rw [Array.getElem?_eq_none h1] at hcc
      cases hcc
    refine .inr ⟨b, o, cap, rfl, hb, hb, fun i hlt => ?_⟩
    obtain ⟨_, h1, h2⟩ := World.cells?_some (hq i hlt).1
    refine ⟨h1, fun j u hu => ?_⟩
    have hj : j < size := by rw [← h1]; exact (List.getElem?_eq_some_iff.1 hu).1
    have := h2 j hj
    rw [addr_add, addr_add] at this
    exact this.trans hu
  ·obtain ⟨hlt, e⟩ := List.getElem?_eq_some_iff.1 hz
   simp at hlt e
   subst e
   exact (hq i hlt).2.1
  ·rw [DataW.weights, ht] at hw
   simp only [List.all_cons, List.all_append, Bool.and_eq_true, decide_eq_true_eq, List.length_map, hby] at hw
   refine ⟨?_, fun i z hz => ?_⟩
   ·rw [List.length_map, List.length_range, ← hlen]
    exact Nat.le_trans (Nat.mul_le_mul_right _ (Nat.le_add_right _ _)) hw.1
   ·obtain ⟨hlt, e⟩ := List.getElem?_eq_some_iff.1 hz
    simp at hlt e
    subst e
    have hd : elems[i]? = some elems[i] := List.getElem?_eq_getElem (by omega)
    exact (hq i hlt).2.2 _ hd (weightsAll_get hw.2.1 i _ (by rw [List.getElem?_map, hd]; rfl))
theorem cellsPat : Tryz.prog.cellsOf 62 = 7 := by kernel_rfl
theorem cellsExpr : Tryz.prog.cellsOf 27 = 8 := by kernel_rfl
theorem cellsArm : Tryz.prog.cellsOf 64 = 15 := by kernel_rfl
theorem cellsStrO : Tryz.prog.cellsOf 9 = 1 := by kernel_rfl
theorem bytesPat : Tryz.prog.bytesOf 62 = 104 := by kernel_rfl
theorem bytesExpr : Tryz.prog.bytesOf 27 = 128 := by kernel_rfl
theorem bytesArm : Tryz.prog.bytesOf 64 = 232 := by kernel_rfl
theorem bytesStrO : Tryz.prog.bytesOf 9 = 16 := by kernel_rfl
theorem cellsIntO : Tryz.prog.cellsOf 3 = 1 := by kernel_rfl
theorem cellsI64O : Tryz.prog.cellsOf 2 = 1 := by kernel_rfl
theorem cellsStrsO : Tryz.prog.cellsOf 23 = 1 := by kernel_rfl
theorem cellsPatsO : Tryz.prog.cellsOf 60 = 1 := by kernel_rfl
theorem cellsExprsO : Tryz.prog.cellsOf 24 = 1 := by kernel_rfl
theorem cellsArmsO : Tryz.prog.cellsOf 25 = 1 := by kernel_rfl
theorem open_strs_sl {fuel : Nat} {cs : List Value} {x : DataW H × List MemPlace} (h : DataW.trod enc Tryz.prog w 0 (fun _ => true) true fuel 23 cs = some x) :
  ∃ (v : Value) (ls : List (List UInt8)) (c : Nat → List Value), cs = [v] ∧ SlAt w (fun b => b < w.heap.size) v ls.length 1 c ∧ (∀ (i : Nat) (z : List UInt8), ls[i]? = some z → c i = strC z) ∧
   ((x.1.weights Tryz.prog 23).all (· ≤ reachBytes) = true → ls.length * 16 ≤ reachBytes ∧ ∀ (i : Nat) (z : List UInt8), ls[i]? = some z → z.length ≤ reachBytes) := by
 refine open_sl (P := Tryz.prog) Tryz.underlying23 1 16 cellsStrO (by decide) bytesStrO (fun z cs => cs = strC z) (fun z => z.length ≤ reachBytes) h (fun n _ cs' y hy => ?_)
 obtain ⟨s, rfl, rfl, _⟩ := DataW.trod_string Tryz.underlying9 hy
 exact ⟨s.data.toList, by simp [strC], fun hw => by simpa [DataW.weights] using hw⟩
set_option maxRecDepth 100000 in
theorem open_pat : ∀ (N fuel : Nat), fuel < N → ∀ (cs : List Value) (x : DataW H × List MemPlace), DataW.trod enc Tryz.prog w 0 (fun _ => true) true fuel 62 cs = some x →
  ∃ t : PatT, PatAt w (fun b => b < w.heap.size) t cs ∧ ((x.1.weights Tryz.prog 62).all (· ≤ reachBytes) = true → WtP t)
 | 0, _, h, _, _, _ => absurd h (Nat.not_lt_zero _)
 | N + 1, fuel, hN, cs, x, h => by
  obtain ⟨xs, n, rfl, rfl, hcl, hxl, hf⟩ := DataW.trod_struct Tryz.underlying62 h
  rw [cellsPat] at hcl
  have hxl : xs.length = 7 := hxl
  obtain ⟨x0, x1, x2, x3, x4, x5, x6, rfl⟩ := len7 hxl
  obtain ⟨v0, v1, v2, v3, v4, v5, v6, rfl⟩ := len7 hcl
  have h0 := hf 0 _ rfl
  have h1 := hf 1 _ rfl
  have h2 := hf 2 _ rfl
  have h3 := hf 3 _ rfl
  have h4 := hf 4 _ rfl
  have h5 := hf 5 _ rfl
  have h6 := hf 6 _ rfl
  simp only [List.getElem_toArray, List.getElem_cons_zero, List.getElem_cons_succ, cellsIntO, cellsI64O, cellsStrO, cellsStrsO, cellsPatsO, List.drop_zero, List.drop_succ_cons, List.take_succ_cons, List.take_zero, List.getElem?_cons_zero, List.getElem?_cons_succ] at h0 h1 h2 h3 h4 h5 h6
  obtain ⟨k, e0, rfl, w0⟩ := DataW.trod_int Tryz.underlying3 h0
  obtain ⟨a, e1, rfl, w1⟩ := DataW.trod_int Tryz.underlying3 h1
  obtain ⟨nm, e2, rfl, w2⟩ := DataW.trod_string Tryz.underlying9 h2
  obtain ⟨m, e3, rfl, w3⟩ := DataW.trod_int Tryz.underlying2 h3
  obtain ⟨s, e4, rfl, w4⟩ := DataW.trod_string Tryz.underlying9 h4
  obtain ⟨u5, ls, c5, e5, s5, l5, b5⟩ := open_strs_sl h5
  obtain ⟨u6, args, c6, e6, s6, l6, b6⟩ := open_sl (P := Tryz.prog) (α := PatT) (hel := fun q hq cs' y hy => open_pat N q (by omega) cs' y hy) Tryz.underlying60 7 104 cellsPat (by decide) bytesPat (E := fun z cs => PatAt w (fun b => b < w.heap.size) z cs) (Wt := WtP) h6
  cases e0; cases e1; cases e2; cases e3; cases e4; cases e5; cases e6
  refine ⟨.mk k a nm.data.toList m s.data.toList ls args, ?_, fun hw => ?_⟩
  ·have := PatAt.mk (w := w) (ok := fun b => b < w.heap.size) (k := k) (a := a) (nm := nm.data.toList) (n := m) (s := s.data.toList) c5 c6 s5 l5 s6 l6
   simpa using this
  ·rw [DataW.weights, Tryz.underlying62] at hw
   simp [DataW.weightsEach, DataW.weights] at hw
   obtain ⟨hw2, hw4, hw5, hw6⟩ := hw
   obtain ⟨p1, p2⟩ := b5 (by simpa using hw5)
   obtain ⟨p3, p4⟩ := b6 (by simpa using hw6)
   exact .mk ⟨w0, w1, w3⟩ (by simpa using hw2) (by simpa using hw4) p1 p2 p3 p4
set_option maxRecDepth 100000 in
theorem open_expr : ∀ (N fuel : Nat), fuel < N → ∀ (cs : List Value) (x : DataW H × List MemPlace), DataW.trod enc Tryz.prog w 0 (fun _ => true) true fuel 27 cs = some x →
  ∃ t : ExprT, ExprAt w (fun b => b < w.heap.size) t cs ∧ ((x.1.weights Tryz.prog 27).all (· ≤ reachBytes) = true → WtE t)
 | 0, _, h, _, _, _ => absurd h (Nat.not_lt_zero _)
 | N + 1, fuel, hN, cs, x, h => by
  obtain ⟨xs, n, rfl, rfl, hcl, hxl, hf⟩ := DataW.trod_struct Tryz.underlying27 h
  rw [cellsExpr] at hcl
  have hxl : xs.length = 8 := hxl
  obtain ⟨x0, x1, x2, x3, x4, x5, x6, x7, rfl⟩ := len8 hxl
  obtain ⟨v0, v1, v2, v3, v4, v5, v6, v7, rfl⟩ := len8 hcl
  have h0 := hf 0 _ rfl
  have h1 := hf 1 _ rfl
  have h2 := hf 2 _ rfl
  have h3 := hf 3 _ rfl
  have h4 := hf 4 _ rfl
  have h5 := hf 5 _ rfl
  have h6 := hf 6 _ rfl
  have h7 := hf 7 _ rfl
  simp only [List.getElem_toArray, List.getElem_cons_zero, List.getElem_cons_succ, cellsIntO, cellsI64O, cellsStrO, cellsStrsO, cellsExprsO, cellsArmsO, List.drop_zero, List.drop_succ_cons, List.take_succ_cons, List.take_zero, List.getElem?_cons_zero, List.getElem?_cons_succ] at h0 h1 h2 h3 h4 h5 h6 h7
  obtain ⟨k, e0, rfl, w0⟩ := DataW.trod_int Tryz.underlying3 h0
  obtain ⟨a, e1, rfl, w1⟩ := DataW.trod_int Tryz.underlying3 h1
  obtain ⟨nm, e2, rfl, w2⟩ := DataW.trod_string Tryz.underlying9 h2
  obtain ⟨m, e3, rfl, w3⟩ := DataW.trod_int Tryz.underlying2 h3
  obtain ⟨s, e4, rfl, w4⟩ := DataW.trod_string Tryz.underlying9 h4
  obtain ⟨u5, ls, c5, e5, s5, l5, b5⟩ := open_strs_sl h5
  obtain ⟨u6, args, c6, e6, s6, l6, b6⟩ := open_sl (P := Tryz.prog) (α := ExprT) (hel := fun q hq cs' y hy => open_expr N q (by omega) cs' y hy) Tryz.underlying24 8 128 cellsExpr (by decide) bytesExpr (E := fun z cs => ExprAt w (fun b => b < w.heap.size) z cs) (Wt := WtE) h6
  obtain ⟨u7, arms, c7, e7, s7, l7, b7⟩ := open_sl (P := Tryz.prog) (α := PatT × ExprT) Tryz.underlying25 15 232 cellsArm (by decide) bytesArm (E := fun z cs => PatAt w (fun b => b < w.heap.size) z.1 (cs.take 7) ∧ ExprAt w (fun b => b < w.heap.size) z.2 (cs.drop 7)) (Wt := fun z => WtP z.1 ∧ WtE z.2) h7 (fun q hq cs' y hy => by
   obtain ⟨ys, m', rfl, rfl, hcl', hyl, hg⟩ := DataW.trod_struct Tryz.underlying64 hy
   rw [cellsArm] at hcl'
   have hyl : ys.length = 2 := hyl
   obtain ⟨y0, y1, rfl⟩ := len2 hyl
   have g0 := hg 0 _ rfl
   have g1 := hg 1 _ rfl
   simp only [List.getElem_toArray, List.getElem_cons_zero, List.getElem_cons_succ, cellsPat, cellsExpr, List.drop_zero, List.getElem?_cons_zero, List.getElem?_cons_succ] at g0 g1
   have e15 : (cs'.drop 7).take 8 = cs'.drop 7 := List.take_of_length_le (by rw [List.length_drop]; omega)
   rw [e15] at g1
   obtain ⟨p, hp, wp⟩ := open_pat (m' + 1) m' (Nat.lt_succ_self _) _ _ g0
   obtain ⟨x, hx, wx⟩ := open_expr N m' (by omega) _ _ g1
   refine ⟨(p, x), ⟨hp, hx⟩, fun hw => ?_⟩
   rw [DataW.weights, Tryz.underlying64] at hw
   simp [DataW.weightsEach] at hw
   exact ⟨wp (by simpa using hw.1), wx (by simpa using hw.2)⟩)
  cases e0; cases e1; cases e2; cases e3; cases e4; cases e5; cases e6; cases e7
  refine ⟨.mk k a nm.data.toList m s.data.toList ls args arms, ?_, fun hw => ?_⟩
  ·have s7' : SlAt w (fun b => b < w.heap.size) v7 arms.length 15 (fun i => (c7 i).take 7 ++ (c7 i).drop 7) := by
    have : (fun i => (c7 i).take 7 ++ (c7 i).drop 7) = c7 := funext fun i => List.take_append_drop 7 (c7 i)
    rw [this]
    exact s7
   have := ExprAt.mk (w := w) (ok := fun b => b < w.heap.size) (k := k) (a := a) (nm := nm.data.toList) (n := m) (s := s.data.toList) c5 c6 (fun i => (c7 i).take 7) (fun i => (c7 i).drop 7) s5 l5 s6 l6 s7' (fun i p x hi => (l7 i _ hi).1) (fun i p x hi => (l7 i _ hi).2)
   simpa using this
  ·rw [DataW.weights, Tryz.underlying27] at hw
   simp [DataW.weightsEach, DataW.weights] at hw
   obtain ⟨hw2, hw4, hw5, hw6, hw7⟩ := hw
   obtain ⟨p1, p2⟩ := b5 (by simpa using hw5)
   obtain ⟨p3, p4⟩ := b6 (by simpa using hw6)
   obtain ⟨p5, p6⟩ := b7 (by simpa using hw7)
   exact .mk ⟨w0, w1, w3⟩ (by simpa using hw2) (by simpa using hw4) p1 p2 p3 p4 p5 (fun i p x hi => (p6 i _ hi).1) (fun i p x hi => (p6 i _ hi).2)
end
theorem agg_of {P : Program} {w : World} {r : Reach} {base : Nat} {t : TypeId} {v : Value} {fs : Array Field} (ht : P.underlying t = some (.struct fs)) (h : Value.okWide P w r base t v) : ∃ cs, v = .agg cs := by
 unfold Value.okWide at h
 rw [ht] at h
 obtain ⟨cs, rfl, _⟩ := h
 exact ⟨cs, rfl⟩
theorem wts_of {H : Type} {P : Program} {ts : List TypeId} {ds : List (DataW H)} (h : (DataW.weightsEach P ts ds).all (· ≤ reachBytes) = true) {j : Nat} {t : TypeId} {d : DataW H} (ht : ts[j]? = some t) (hd : ds[j]? = some d) : (d.weights P t).all (· ≤ reachBytes) = true :=
 List.all_eq_true.2 fun n hn => List.all_eq_true.1 h n (DataW.weights_mem_each ht hd n hn)
theorem laidOut6 : laidOutB Tryz.prog = true := by kernel_rfl
theorem WtP.bd {x : PatT} (h : WtP x) : BdP 4398046511104 x := by
 induction h with
 | mk _ _ _ _ _ h5 _ ih => exact .mk (by unfold reachBytes at h5; omega) ih
theorem WtE.bd {x : ExprT} (h : WtE x) : BdE 4398046511104 x := by
 induction h with
 | mk _ _ _ _ _ h5 _ h7 h8 _ ih ih9 => exact .mk (by unfold reachBytes at h5; omega) ih (by unfold reachBytes at h7; omega) (fun i p x hi => (h8 i p x hi).bd) ih9
section
variable {H : Type} {enc : TypeId × Value → H} {w : World}
theorem open_arg_expr {cs : Array Value} {d : DataW H} {p : List MemPlace} (h : DataW.Trod enc Tryz.prog w 0 (fun _ => true) true 27 (.agg cs) d p) (hw : (d.weights Tryz.prog 27).all (· ≤ reachBytes) = true) :
  ∃ (k a : Int) (nm : List UInt8) (n : Int) (s : List UInt8) (ls : List (List UInt8)) (args : List ExprT) (arms : List (PatT × ExprT)) (A5 : Option Addr) (n5 c5 : Nat) (A6 : Option Addr) (n6 c6 : Nat) (A7 : Option Addr) (n7 c7 : Nat),
   cs = #[.int .i64 k, .int .i64 a, .string ⟨nm.toArray⟩, .int .i64 n, .string ⟨s.toArray⟩, .slice A5 n5 c5, .slice A6 n6 c6, .slice A7 n7 c7] ∧ ExprAt w (fun b => b < w.heap.size) (.mk k a nm n s ls args arms) [.int .i64 k, .int .i64 a, .string ⟨nm.toArray⟩, .int .i64 n, .string ⟨s.toArray⟩, .slice A5 n5 c5, .slice A6 n6 c6, .slice A7 n7 c7] ∧ WtE (.mk k a nm n s ls args arms) := by
 obtain ⟨fuel, hf⟩ := h
 obtain ⟨t, hx, hwt⟩ := open_expr (fuel + 1) fuel (Nat.lt_succ_self _) _ _ hf
 have hwt := hwt hw
 have hcs : (Value.agg cs).cells.toList = cs.toList := rfl
 rw [hcs] at hx
 generalize hl : cs.toList = l at hx
 have hx0 := hx
 cases hx with
 | mk c5 c6 cp ce h5 e5 h6 e6 h7 e7 e8 =>
  obtain ⟨_, _, rfl⟩ := h5.form
  obtain ⟨_, _, rfl⟩ := h6.form
  obtain ⟨_, _, rfl⟩ := h7.form
  refine ⟨_, _, _, _, _, _, _, _, _, _, _, _, _, _, _, _, _, ?_, hx0, hwt⟩
  rw [← Array.toArray_toList (xs := cs), hl]
end
end Go.Proofs.YtpjkfeehgookkaaGreatDoor
namespace Go.Proofs.YtpjkfeehgookkaaGreatDoor
open Go.ChangeShapes Go.WideShapes Go.ChangeAt Go.ChangeMaps Go.RowKit
section
theorem parseCounts_reads (os : Os) {H : Type} (enc : TypeId × Value → H) : ∃ places, DataW.whole enc Tryz.prog ((doorW os).forCall (fun _ _ => 0) ⟨#[], #[.agg #[.int .i64 0, .int .i64 0, .string ⟨#[]⟩, .int .i64 0, .string ⟨#[]⟩, .slice none 0 0, .slice none 0 0, .slice none 0 0], .int .i64 0, .int .i64 0], []⟩).memory Tryz.f4.params.toList Rows.parseCountsSpec.vars false (#[.agg #[.int .i64 0, .int .i64 0, .string ⟨#[]⟩, .int .i64 0, .string ⟨#[]⟩, .slice none 0 0, .slice none 0 0, .slice none 0 0], .int .i64 0, .int .i64 0] : Array Value).toList 8 = some ([.agg [.lit (.int .i64 0), .lit (.int .i64 0), .lit (.string []), .lit (.int .i64 0), .lit (.string []), .nil, .nil, .nil], .lit (.int .i64 0), .lit (.int .i64 0)], [], places) :=
 ⟨[], by kernel_rfl⟩
set_option maxRecDepth 100000 in
theorem parseCounts_contract (H : Type) (enc : TypeId × Value → H) (W : World) (base : Nat) (args : Array Value) (ds gs : List (DataW H)) (before : List MemPlace)
  (hval : ∀ (j : Nat) t v, Tryz.f4.params[j]? = some t → args[j]? = some v → Value.okWide Tryz.prog W .any base t v)
  (hW : DataW.Whole enc Tryz.prog Tryz.f4.params.toList Rows.parseCountsSpec.vars false W args.toList ds gs before) (hsz : (DataW.weightsEach Tryz.prog (Tryz.f4.params.toList ++ Rows.parseCountsSpec.plain.varTypes Tryz.prog) (ds ++ gs)).all (· ≤ reachBytes) = true) (hL : laidMetH Tryz.prog Rows.parseCountsRow.laid W) (hS : W.ShapedOpen Tryz.prog) :
  Calls Tryz.prog 4 args W fun e W' => ∃ v, e = .returned v ∧ Rows.parseCountsSpec.post enc Tryz.prog Tryz.f4 false true false false W args v W' := by
 have hE := env_of hL hS
 have hW' := hW
 obtain ⟨p, q, hA0, hV, rfl, hfz, hnd⟩ := hW
 have hA : DataW.TrodAll enc Tryz.prog W 0 (fun _ => true) true Tryz.f4.params.toList args.toList ds p := hA0
 rw [Tryz.params4] at hA hval hsz
 obtain ⟨v0, vs0, d0, ds0, p0, q0, hargs, rfl, rfl, t0, r0⟩ := trodAll_cons hA
 obtain ⟨v1, vs1, d1, ds1, p1, q1, rfl, rfl, rfl, t1, r1⟩ := trodAll_cons r0
 obtain ⟨v2, vs2, d2, ds2, p2, q2, rfl, rfl, rfl, t2, r2⟩ := trodAll_cons r1
 obtain ⟨rfl, rfl, rfl⟩ := trodAll_nil r2
 obtain rfl : args = #[v0, v1, v2] := by cases args; simp_all
 obtain ⟨rfl, rfl⟩ := trodVars_none hV
 have tkx := t0
 obtain ⟨csx, rfl⟩ := agg_of Tryz.underlying27 (hval 0 27 v0 rfl rfl)
 obtain ⟨kx, ax, nmx, nx, sx, lsx, argsx, armsx, A5x, n5x, c5x, A6x, n6x, c6x, A7x, n7x, c7x, rfl, xt, xw⟩ := open_arg_expr t0 (wts_of hsz (j := 0) rfl rfl)
 have hltx : ∀ z ∈ p0, z.block < W.heap.size := fun z hz => hW'.lt z (by simp [hz])
 obtain ⟨m, rfl, rfl, rfl, hm⟩ := open_int Tryz.underlying3 (hval 1 3 v1 rfl rfl) t1
 obtain ⟨d, rfl, rfl, rfl, hd⟩ := open_int Tryz.underlying3 (hval 2 3 v2 rfl rfl) t2
 clear hA0
 simp only [List.append_nil] at hW'
 refine (ParseCounts_walk _ _ _ _ _ _ _ _ _ _ _ _ _ _ _ _ _ m d (i64_wf hm).1 W hE xt (xw.bd)).mono fun e W' ⟨he, hf⟩ => ?_
 subst he
 refine ⟨_, rfl, _, _, _, [], p0 ++ ([] ++ ([] ++ ([]))), [], hW', ?_, ?_, rfl, hf.below0.frame _, fun h => by cases h⟩
 ·exact trodAll_cons_mk (shut_bool Tryz.underlying4 _) trodAll_mk0
 ·exact trodAll_cons_mk (Below.trod laidOut6 (by kernel_rfl) (of_decide_eq_true (by kernel_rfl)) tkx hf.below0 hltx) (trodAll_cons_mk (shut_int Tryz.underlying3 hm) (trodAll_cons_mk (shut_int Tryz.underlying3 hd) trodAll_mk0))
set_option maxRecDepth 100000 in
theorem parseCounts_lifted (os : Os) (started : os.Started) (H : Type) (enc : TypeId × Value → H) (F : Stop.Interp) :
  ReturnsInHanded {} Tryz.checked os 4 .any ((OpenSpec.ofChange Rows.parseCountsSpec).preRow enc Tryz.prog Tryz.f4 Rows.parseCountsRow.domain false Rows.parseCountsRow.laid) (((OpenSpec.ofChange Rows.parseCountsSpec).at F).post enc Tryz.prog Tryz.f4 false true false false) := by
 obtain ⟨places, hx⟩ := parseCounts_reads os enc
 refine returnsInHanded_of_row (C := Tryz.checked) (s := OpenSpec.ofChange Rows.parseCountsSpec) own started (by kernel_rfl) Tryz.func4
  (witness_row_atRef (enc := enc) (C := Tryz.checked) false (doorW os) #[.agg #[.int .i64 0, .int .i64 0, .string ⟨#[]⟩, .int .i64 0, .string ⟨#[]⟩, .slice none 0 0, .slice none 0 0, .slice none 0 0], .int .i64 0, .int .i64 0] rfl (by kernel_rfl) (by kernel_rfl) (by kernel_rfl)
   (OpenSpec.preRow_of_cond 8 hx (by kernel_rfl) (fun k hk => by cases hk) (by kernel_rfl) (laid_met os _))) ?_
 intro W base args ds gs before hval hW _ _ hsz hL hS _
 exact parseCounts_contract H enc W base args ds gs before hval hW hsz hL hS
theorem parseCounts_said : Rows.ParseCountsSaid :=
 OpenClaim.holds_of_cond 4 Tryz.f4 rfl rfl rfl rfl rfl rfl rfl ⟨rfl, rfl, rfl, rfl, rfl⟩ rfl rfl rfl rfl rfl (by kernel_rfl) Tryz.func4 (by kernel_rfl)
  (of_decide_eq_true (by kernel_rfl)) (by unfold Func.isWrapper; first | (rw [if_pos (by decide +kernel)]; kernel_rfl) | (rw [if_neg (by decide +kernel)]; exact ⟨rfl, rfl⟩))
  (fun os started H enc _ F => by rw [OpenClaim.pre_eq_preRow]; exact parseCounts_lifted os started H enc F)
theorem parseCounts_plain (f : FuncId) (fn : Func) (hf : Tryz.pinned.checked.prog.funcNamed "marquetry/marquetrylaw06.ParseCounts" = some f) (hfn : Tryz.pinned.checked.prog.funcs[f]? = some fn) :
  true = Tryz.pinned.checked.prog.looks [] ∧ ∀ (j : Nat) t, fn.params[j]? = some t → Tryz.pinned.checked.prog.wantsStandIn t = false := by
 obtain rfl : f = 4 := Option.some.inj ((show Tryz.prog.funcNamed "marquetry/marquetrylaw06.ParseCounts" = some 4 by kernel_rfl).symm.trans hf) |>.symm
 obtain rfl : fn = Tryz.f4 := (Option.some.inj (Tryz.func4.symm.trans hfn)).symm
 refine ⟨by kernel_rfl, fun j t ht => ?_⟩
 rw [Tryz.params4] at ht
 have hm : t ∈ [27, 3, 3] := by simpa using Array.mem_of_getElem? ht
 have hall : ([27, 3, 3].all fun u => !Tryz.prog.wantsStandIn u) = true := by kernel_rfl
 exact (show Tryz.prog.wantsStandIn t = false by simpa using List.all_eq_true.1 hall t hm)
theorem parseCounts_card : Rows.ParseCountsCardSaid :=
 Claim7.holds_tied_plain_at .later [] _ _ _ _ parseCounts_said (fun _ h => by cases h) (by kernel_rfl) (fun _ h => by cases h) parseCounts_row_tie rfl ⟨rfl, rfl⟩ (by kernel_rfl) rfl parseCounts_plain (by kernel_rfl)
end
end Go.Proofs.YtpjkfeehgookkaaGreatDoor
