/- Each part's place is a token's, and an expression has at most three parts for each token: proved for every input. -/
import Derived.Lib.ConvBytes
import Derived.Laws.AppendOwnNone
import Derived.Test.YtpjkfeehgookkaaGreatDoorCb6
namespace Go.Proofs.YtpjkfeehgookkaaGreatDoor
open Go.RowKit
theorem BI.frame {w : World} {b : Nat} {r : Option (Nat × Obj)} {l : List UInt8} {wr : World} (h : BI w b r l wr) : Fr [] w wr := by
 obtain ⟨own, _, _, _, hf, _⟩ := h
 exact hf
end Go.Proofs.YtpjkfeehgookkaaGreatDoor
namespace Go.Proofs.YtpjkfeehgookkaaGreatDoor
open Go.RowKit
theorem partsPs_same : ∀ (l l' : List PatT) (d : Nat), l.length = l'.length → (∀ (i : Nat) (x y : PatT), l[i]? = some x → l'[i]? = some y → ∀ d, (partsP x d).map Prod.snd = (partsP y d).map Prod.snd) → (partsPs l d).map Prod.snd = (partsPs l' d).map Prod.snd
 | [], [], d, _, _ => rfl
 | [], _ :: _, d, h, _ => by simp at h
 | _ :: _, [], d, h, _ => by simp at h
 | x :: l, y :: l', d, hl, h => by
  rw [partsPs, partsPs, List.map_append, List.map_append, h 0 x y rfl rfl d, partsPs_same l l' d (by simpa using hl) (fun i x y hx hy => h (i + 1) x y (by simpa using hx) (by simpa using hy))]
theorem partsEs_same : ∀ (l l' : List ExprT) (d : Nat), l.length = l'.length → (∀ (i : Nat) (x y : ExprT), l[i]? = some x → l'[i]? = some y → ∀ d, (partsE x d).map Prod.snd = (partsE y d).map Prod.snd) → (partsEs l d).map Prod.snd = (partsEs l' d).map Prod.snd
 | [], [], d, _, _ => rfl
 | [], _ :: _, d, h, _ => by simp at h
 | _ :: _, [], d, h, _ => by simp at h
 | x :: l, y :: l', d, hl, h => by
  rw [partsEs, partsEs, List.map_append, List.map_append, h 0 x y rfl rfl d, partsEs_same l l' d (by simpa using hl) (fun i x y hx hy => h (i + 1) x y (by simpa using hx) (by simpa using hy))]
theorem partsAs_same : ∀ (l l' : List (PatT × ExprT)) (d : Nat), l.length = l'.length → (∀ (i : Nat) (p p' : PatT) (x y : ExprT), l[i]? = some (p, x) → l'[i]? = some (p', y) → ∀ d, (partsP p d).map Prod.snd = (partsP p' d).map Prod.snd) →
  (∀ (i : Nat) (p p' : PatT) (x y : ExprT), l[i]? = some (p, x) → l'[i]? = some (p', y) → ∀ d, (partsE x d).map Prod.snd = (partsE y d).map Prod.snd) → (partsAs l d).map Prod.snd = (partsAs l' d).map Prod.snd
 | [], [], d, _, _, _ => rfl
 | [], _ :: _, d, h, _, _ => by simp at h
 | _ :: _, [], d, h, _, _ => by simp at h
 | (p, x) :: l, (p', y) :: l', d, hl, hp, h => by
  rw [partsAs, partsAs, List.map_append, List.map_append, partsAs_same l l' d (by simpa using hl) (fun i p p' x y hx hy => hp (i + 1) p p' x y (by simpa using hx) (by simpa using hy)) (fun i p p' x y hx hy => h (i + 1) p p' x y (by simpa using hx) (by simpa using hy)),
   partsA, partsA, List.map_append, List.map_append, hp 0 p p' x y rfl rfl d, h 0 p p' x y rfl rfl d]
theorem SameP.parts {x y : PatT} (h : SameP x y) : ∀ d, (partsP x d).map Prod.snd = (partsP y d).map Prod.snd := by
 induction h with
 | mk hl h ih => intro d; rw [partsP_mk, partsP_mk, List.map_cons, List.map_cons, partsPs_same _ _ (d + 1) hl ih]
theorem SameE.parts {x y : ExprT} (h : SameE x y) : ∀ d, (partsE x d).map Prod.snd = (partsE y d).map Prod.snd := by
 induction h with
 | mk hl h hl2 hp hx ih ih2 =>
  intro d
  rw [partsE_mk, partsE_mk, List.map_cons, List.map_cons, List.map_append, List.map_append, partsEs_same _ _ (d + 1) hl ih, partsAs_same _ _ (d + 1) hl2 (fun i p p' x y h1 h2 => (hp i p p' x y h1 h2).parts) ih2]
theorem SameE.sz {x y : ExprT} (h : SameE x y) : szE y = szE x := by
 have := congrArg List.length (h.parts 1)
 rw [List.length_map, List.length_map, partsE_len, partsE_len] at this
 exact this.symm
theorem SameE.deep {x y : ExprT} (h : SameE x y) (m : Int) : deepOf m x = none ↔ deepOf m y = none := by
 have key : ∀ x, deepOf m x = none ↔ ∀ d ∈ (partsE x 1).map Prod.snd, ¬ m < (d : Int) := fun x => by
  unfold deepOf
  rw [List.find?_eq_none]
  simp
  exact ⟨fun h d a => h a d, fun h a d => h d a⟩
 rw [key, key, h.parts 1]
end Go.Proofs.YtpjkfeehgookkaaGreatDoor
namespace Go.Proofs.YtpjkfeehgookkaaGreatDoor
open Go.RowKit
theorem ExprAt.lens {w : World} {ok : Nat → Prop} {k a : Int} {nm : List UInt8} {n : Int} {s : List UInt8} {ls : List (List UInt8)} {args : List ExprT} {arms : List (PatT × ExprT)} {A5 : Option Addr} {n5 c5 : Nat} {A6 : Option Addr} {n6 c6 : Nat} {A7 : Option Addr} {n7 c7 : Nat} {a0 a1 a2 a3 a4 : Value}
  (h : ExprAt w ok (.mk k a nm n s ls args arms) [a0, a1, a2, a3, a4, .slice A5 n5 c5, .slice A6 n6 c6, .slice A7 n7 c7]) : n5 = ls.length ∧ n6 = args.length ∧ n7 = arms.length := by
 cases h with
 | mk _ _ _ _ h5 _ h6 _ h7 _ _ => exact ⟨h5.len, h6.len, h7.len⟩
theorem PR.sz {s : List UInt8} {x : ExprT} {er p : Int} (h : PR s x er p) : szE x ≤ 4096 := by
 have hz : szE .zero ≤ 4096 := by decide
 cases h with
 | lexErr => exact hz
 | syn => exact hz
 | many => exact hz
 | deep => exact hz
 | ok hl hr ht hok hend hm hd => exact hm
theorem ExprAt.fr {w w' : World} {x : ExprT} {cs : List Value} (h : ExprAt w (fun b => b < w.heap.size) x cs) (f : Fr [] w w') : ExprAt w' (fun b => b < w'.heap.size) x cs :=
 h.keep (Sh.of_fr f (fun b hb _ => ⟨by have := f.size; omega, fun x => by cases x⟩))
theorem ExprAt.fr0 {w w' : World} {B : Nat} {x : ExprT} {cs : List Value} (h : ExprAt w (fun b => B ≤ b) x cs) (f : Fr [] w w') : ExprAt w' (fun b => b < w'.heap.size) x cs :=
 h.keep (Sh.of_fr f (fun b _ hlt => ⟨by have := f.size; omega, fun x => by cases x⟩))
end Go.Proofs.YtpjkfeehgookkaaGreatDoor
namespace Go.Proofs.YtpjkfeehgookkaaGreatDoor
open Go.RowKit
attribute [local go_sem ↓] Go.wp_at_zero Go.wp_at_succ
def ptC (p : Int × Nat) : List Value := [.int .i64 p.1, .int .i64 (p.2 : Int)]
def ptsC (l : List (Int × Nat)) : List Value := l.flatMap ptC
theorem ptsC_app (l m : List (Int × Nat)) : ptsC (l ++ m) = ptsC l ++ ptsC m := by simp [ptsC]
theorem ptsC_len (l : List (Int × Nat)) : (ptsC l).length = l.length * 2 := by
 induction l with
 | nil => rfl
 | cons x l ih => rw [show ptsC (x :: l) = ptC x ++ ptsC l from rfl, List.length_append, ih, List.length_cons, show (ptC x).length = 2 from rfl]; omega
theorem ptsC_one (l : List (Int × Nat)) : ∀ u ∈ ptsC l, u.oneCell' = true := by
 intro u hu
 obtain ⟨p, _, hp⟩ := List.mem_flatMap.1 hu
 simp [ptC] at hp
 rcases hp with rfl | rfl <;> rfl
def OwnPt (B : Nat) (v : Value) (l : List (Int × Nat)) (w : World) : Prop := w.ownsRow 0 36 2 v l.length (ptsC l) ∧ ∀ g, v.ownBlock = some g → B ≤ g
theorem OwnPt.fr {B : Nat} {v : Value} {l : List (Int × Nat)} {w w' : World} (h : OwnPt B v l w) (hf : Fr [] w w') : OwnPt B v l w' := ⟨ownsRow_fr h.1 hf (fun _ _ h => by cases h), h.2⟩
theorem OwnPt.weak {B B' : Nat} {v : Value} {l : List (Int × Nat)} {w : World} (h : OwnPt B v l w) (hb : B' ≤ B) : OwnPt B' v l w := ⟨h.1, fun g hg => Nat.le_trans hb (h.2 g hg)⟩
theorem OwnPt.nil_ (B : Nat) (w : World) : OwnPt B (.slice none 0 0) [] w := ⟨⟨by simp [ptsC], .inl ⟨rfl, rfl⟩⟩, fun g hg => by simp [Value.ownBlock] at hg⟩
theorem OwnPt.form {B : Nat} {v : Value} {l : List (Int × Nat)} {w : World} (h : OwnPt B v l w) : (v = .slice none 0 0 ∧ l = []) ∨ ∃ g c, v = .slice (some ⟨g, 0, none⟩) l.length c ∧ B ≤ g ∧ g < w.heap.size ∧ ∀ (j : Nat) (u : Value), (ptsC l)[j]? = some u → w.cell? ((⟨g, 0, none⟩ : Addr).add j) = some u := by
 rcases h.1.2 with ⟨hv, hn⟩ | ⟨g, cap, cur, hv, _, hg, _⟩
 ·exact .inl ⟨hv, List.eq_nil_of_length_eq_zero hn⟩
 ·subst hv
  exact .inr ⟨g, cap, rfl, h.2 g rfl, (Array.getElem?_eq_some_iff.1 hg).1, fun j u hj => h.1.cells (g := g) rfl j u hj⟩
theorem infoPart : (Tryz.prog.info? 36).map (fun i => (i.zero, i.size, i.bytes)) = some (some (.agg #[.int .i64 0, .int .i64 0]), 2, 16) := by kernel_rfl
theorem take_step {α : Type} (P C : List α) (m : Nat) : P.take m ++ C.take (m - (P.take m).length) = (P ++ C).take m := by
 rw [List.take_append, List.length_take]
 rcases Nat.le_total P.length m with h | h
 ·rw [Nat.min_eq_right h]
 ·rw [Nat.min_eq_left h, Nat.sub_self, Nat.sub_eq_zero_of_le h]
theorem take_full {α : Type} (P C : List α) (m : Nat) (h : m ≤ (P.take m).length) : P.take m = (P ++ C).take m := by
 rw [List.length_take] at h
 rw [List.take_append_of_le_length (by omega)]
theorem partsPs_app (l m : List PatT) (d : Nat) : partsPs (l ++ m) d = partsPs l d ++ partsPs m d := by
 induction l with
 | nil => simp [partsPs]
 | cons x l ih => simp [partsPs, ih]
theorem partsEs_app (l m : List ExprT) (d : Nat) : partsEs (l ++ m) d = partsEs l d ++ partsEs m d := by
 induction l with
 | nil => simp [partsEs]
 | cons x l ih => simp [partsEs, ih]
theorem partsAs_app (l m : List (PatT × ExprT)) (d : Nat) : partsAs (l ++ m) d = partsAs l d ++ partsAs m d := by
 induction l with
 | nil => simp [partsAs]
 | cons x l ih => simp [partsAs, ih]
theorem partsPs_take {l : List PatT} {i : Nat} {x : PatT} (h : l[i]? = some x) (d : Nat) : partsPs (l.take (i + 1)) d = partsPs (l.take i) d ++ partsP x d := by
 obtain ⟨hi, he⟩ := List.getElem?_eq_some_iff.1 h
 rw [List.take_succ_eq_append_getElem hi, partsPs_app, he]; simp [partsPs]
theorem partsEs_take {l : List ExprT} {i : Nat} {x : ExprT} (h : l[i]? = some x) (d : Nat) : partsEs (l.take (i + 1)) d = partsEs (l.take i) d ++ partsE x d := by
 obtain ⟨hi, he⟩ := List.getElem?_eq_some_iff.1 h
 rw [List.take_succ_eq_append_getElem hi, partsEs_app, he]; simp [partsEs]
theorem partsAs_take {l : List (PatT × ExprT)} {i : Nat} {p : PatT} {x : ExprT} (h : l[i]? = some (p, x)) (d : Nat) : partsAs (l.take (i + 1)) d = partsAs (l.take i) d ++ partsP p d ++ partsE x d := by
 obtain ⟨hi, he⟩ := List.getElem?_eq_some_iff.1 h
 rw [List.take_succ_eq_append_getElem hi, partsAs_app, he]; simp [partsAs, partsA]
theorem OwnPt.app {B : Nat} {v v' : Value} {l m : List (Int × Nat)} {w w' : World} (h : OwnPt B v l w) (hb : B ≤ w.heap.size) (hown : w'.ownsRow 0 36 2 v' (l.length + m.length) (ptsC l ++ ptsC m)) (hg : w.grownBy w' v.ownBlock) (hfp : FpOf v v' w.heap.size) :
  OwnPt B v' (l ++ m) w' ∧ (∀ w0 : World, Fr [] w0 w → w0.heap.size ≤ B → Fr [] w0 w') ∧ ∀ (k : Nat) (o : Obj), k < B → w.heap[k]? = some o → w'.heap[k]? = some o := by
 refine ⟨⟨by rw [List.length_append, ptsC_app]; exact hown, fun g hg' => (hfp g hg').elim (fun h1 => h.2 g h1) (fun h1 => by omega)⟩, fun w0 hf h0 => hf.append hg (fun g hg' => .inr (by have := h.2 g hg'; omega)), fun k o hk ho => ?_⟩
 have h1 := hg.block k (lt_of_heap ho) (fun e => by have := h.2 k e.symm; omega)
 exact h1.trans ho
inductive BdP (b : Nat) : PatT → Prop
 | mk {k a nm n s ls args} (h : args.length ≤ b) (h2 : ∀ (i : Nat) (x : PatT), args[i]? = some x → BdP b x) : BdP b (.mk k a nm n s ls args)
inductive BdE (b : Nat) : ExprT → Prop
 | mk {k a nm n s ls args arms} (h : args.length ≤ b) (h2 : ∀ (i : Nat) (x : ExprT), args[i]? = some x → BdE b x) (h3 : arms.length ≤ b) (h4 : ∀ (i : Nat) (p : PatT) (x : ExprT), arms[i]? = some (p, x) → BdP b p) (h5 : ∀ (i : Nat) (p : PatT) (x : ExprT), arms[i]? = some (p, x) → BdE b x) : BdE b (.mk k a nm n s ls args arms)
theorem BdP.of_sz {b : Nat} : ∀ (N : Nat) (x : PatT), szP x < N → szP x ≤ b → BdP b x
 | 0, _, h, _ => absurd h (Nat.not_lt_zero _)
 | N + 1, .mk k a nm n s ls args, h, hb => by
  have e : szP (.mk k a nm n s ls args) = 1 + szPs args := by simp [szP]
  rw [e] at h hb
  have := szPs_ge args
  exact .mk (by omega) (fun i x hx => BdP.of_sz N x (by have := szPs_get hx; omega) (by have := szPs_get hx; omega))
theorem BdE.of_sz {b : Nat} : ∀ (N : Nat) (x : ExprT), szE x < N → szE x ≤ b → BdE b x
 | 0, _, h, _ => absurd h (Nat.not_lt_zero _)
 | N + 1, .mk k a nm n s ls args arms, h, hb => by
  have e : szE (.mk k a nm n s ls args arms) = 1 + (szEs args + szAs arms) := by simp [szE]
  rw [e] at h hb
  have := szEs_ge args
  have := szAs_ge arms
  exact .mk (by omega) (fun i x hx => BdE.of_sz N x (by have := szEs_get hx; omega) (by have := szEs_get hx; omega)) (by omega) (fun i p x hx => BdP.of_sz (szP p + 1) p (by omega) (by have := szAs_get hx; omega)) (fun i p x hx => BdE.of_sz N x (by have := szAs_get hx; have := szP_pos p; omega) (by have := szAs_get hx; omega))
def PPA (N : Nat) : Prop := ∀ (k a : Int) (nm : List UInt8) (n : Int) (s : List UInt8) (ls : List (List UInt8)) (args : List PatT) (v5 v6 : Value) (d : Nat) (D : Int) (m : Nat) (M : Int) (w : World), szP (.mk k a nm n s ls args) < N → D = d → d + m ≤ 4398046511104 → M = m → BdP 4398046511104 (.mk k a nm n s ls args) →
  PatAt w (fun b => b < w.heap.size) (.mk k a nm n s ls args) [.int .i64 k, .int .i64 a, .string ⟨nm.toArray⟩, .int .i64 n, .string ⟨s.toArray⟩, v5, v6] →
  Calls Tryz.prog 26 #[.agg #[.int .i64 k, .int .i64 a, .string ⟨nm.toArray⟩, .int .i64 n, .string ⟨s.toArray⟩, v5, v6], .int .i64 D, .int .i64 M] w fun e w' => ∃ v, e = .returned v ∧ OwnPt w.heap.size v ((partsP (.mk k a nm n s ls args) d).take m) w' ∧ Fr [] w w'
set_option maxHeartbeats 8000000 in
set_option maxRecDepth 100000 in
theorem ppa_step (N : Nat) (ih : PPA N) : PPA (N + 1) := by
 intro k a nm n s ls args v5 v6 d D m M w hN hD hb hM hbd hx
 subst hM
 have hm : m ≤ 4398046511104 := by omega
 cases hx with
 | mk c5 c6 h5 e5 h6 e6 =>
 have hsz : szP (.mk k a nm n s ls args) = 1 + szPs args := by simp [szP]
 rw [hsz] at hN
 cases hbd with
 | mk bd1 bd2 =>
 have HBD := Lib.hid bd2
 rw [partsP_mk]
 have hform : ∃ A6 m6 cc6, v6 = .slice A6 m6 cc6 ∧ m6 = args.length := by
  obtain ⟨_, _, hv⟩ := h6.form
  exact ⟨_, _, _, hv, rfl⟩
 obtain ⟨A6, m6, cc6, rfl, rfl⟩ := hform
 have hform : ∃ A5 m5 cc5, v5 = .slice A5 m5 cc5 := by obtain ⟨_, _, hv⟩ := h5.form; exact ⟨_, _, _, hv⟩
 obtain ⟨A5, m5, cc5, rfl⟩ := hform
 have IH := Lib.hid ih
 have H6 := Lib.hid h6
 have E6 : Hid (∀ (i : Nat) (x : PatT), args[i]? = some x → PatAt w (fun b => b < w.heap.size) x (c6 i)) := Lib.hid e6
 have HN := Lib.hid hN
 have hdn : (0 : Int) ≤ D := by omega
 have hdx : D ≤ 4398046511104 := by omega
 have HD := Lib.hid hD
 have hm6 : (args.length : Int) ≤ 4611686018427387903 := by omega
 obtain ⟨i0, hi, hz0, hz1, hz2⟩ := info_parts infoPart
 have HI := Lib.hid hi
 have HZ0 := Lib.hid hz0
 have HZ1 := Lib.hid hz1
 have HZ2 := Lib.hid hz2
 have HB := Lib.hid hb
 clear ih h5 e5 h6 e6 hN hsz hi hz0 hz1 hz2 hD hb bd2
 go_enter Tryz.func26, Tryz.ntmps26
 by_cases hm0 : m = 0
 ·subst hm0
  go_wp2_with fail
  have f0 : Fr [] w (w.alloc (.cells #[.int .i64 k, .int .i64 a, .string ⟨nm.toArray⟩, .int .i64 n, .string ⟨s.toArray⟩, .slice A5 m5 cc5, .slice A6 args.length cc6] 62)) := (Fr.refl [] w).alloc _
  have q0 := heap_new w (.cells #[.int .i64 k, .int .i64 a, .string ⟨nm.toArray⟩, .int .i64 n, .string ⟨s.toArray⟩, .slice A5 m5 cc5, .slice A6 args.length cc6] 62)
  generalize w.alloc (.cells #[.int .i64 k, .int .i64 a, .string ⟨nm.toArray⟩, .int .i64 n, .string ⟨s.toArray⟩, .slice A5 m5 cc5, .slice A6 args.length cc6] 62) = w1 at *
  have hT1 := lt_of_heap q0
  go_ret
  exact ⟨_, rfl, OwnPt.nil_ _ _, f0⟩
 ·have hM0 : ¬ (m : Int) ≤ 0 := by omega
  have hMx : (m : Int) ≤ 4398046511104 := by omega
  have hs1 : (w.alloc (.cells #[.int .i64 k, .int .i64 a, .string ⟨nm.toArray⟩, .int .i64 n, .string ⟨s.toArray⟩, .slice A5 m5 cc5, .slice A6 args.length cc6] 62)).heap.size = w.heap.size + 1 := by simp
  have hown : OwnPt (w.heap.size + 1) (.slice (some ⟨w.heap.size + 1, 0, none⟩) 1 1) (((a, d) :: partsPs (args.take 0) (d + 1)).take m) ((w.alloc (.cells #[.int .i64 k, .int .i64 a, .string ⟨nm.toArray⟩, .int .i64 n, .string ⟨s.toArray⟩, .slice A5 m5 cc5, .slice A6 args.length cc6] 62)).alloc (.cells #[.int .i64 a, .int .i64 D] 36)) := by
   have e : ((a, d) :: partsPs (args.take 0) (d + 1)).take m = [(a, d)] := by
    obtain ⟨m', rfl⟩ : ∃ m', m = m' + 1 := ⟨m - 1, by omega⟩
    simp [partsPs]
   rw [e]
   refine ⟨?_, fun g hg => by simp [Value.ownBlock] at hg; omega⟩
   have := World.ownsRow_lit (base := 0) (e := 36) (size := 2) (w.alloc (.cells #[.int .i64 k, .int .i64 a, .string ⟨nm.toArray⟩, .int .i64 n, .string ⟨s.toArray⟩, .slice A5 m5 cc5, .slice A6 args.length cc6] 62)) #[.int .i64 a, .int .i64 D] 1 (Nat.zero_le _) (by decide) (by simp)
   rw [hs1] at this
   have hDD := HD.out
   subst hDD
   simpa [ptsC, ptC] using this
  have HT := Lib.hid hown
  have f1 : Fr [] w ((w.alloc (.cells #[.int .i64 k, .int .i64 a, .string ⟨nm.toArray⟩, .int .i64 n, .string ⟨s.toArray⟩, .slice A5 m5 cc5, .slice A6 args.length cc6] 62)).alloc (.cells #[.int .i64 a, .int .i64 D] 36)) := ((Fr.refl [] w).alloc _).alloc _
  have q0 := heap_old (heap_new w (.cells #[.int .i64 k, .int .i64 a, .string ⟨nm.toArray⟩, .int .i64 n, .string ⟨s.toArray⟩, .slice A5 m5 cc5, .slice A6 args.length cc6] 62)) (.cells #[.int .i64 a, .int .i64 D] 36)
  clear hown hs1
  go_wp2_with fail
  generalize (w.alloc (.cells #[.int .i64 k, .int .i64 a, .string ⟨nm.toArray⟩, .int .i64 n, .string ⟨s.toArray⟩, .slice A5 m5 cc5, .slice A6 args.length cc6] 62)).alloc (.cells #[.int .i64 a, .int .i64 D] 36) = w2 at *
  generalize hT : w.heap.size = T at *
  go_loopw [7, 8] (fun v iv wr => ∃ (i : Nat), iv = .int .i64 i ∧ i ≤ args.length ∧ Hid (OwnPt (T + 1) v (((a, d) :: partsPs (args.take i) (d + 1)).take m) wr) ∧ Fr [] w wr ∧ wr.heap[T]? = some (.cells #[.int .i64 k, .int .i64 a, .string ⟨nm.toArray⟩, .int .i64 n, .string ⟨s.toArray⟩, .slice A5 m5 cc5, .slice A6 args.length cc6] 62 (0, 0))) (fun _ iv _ => args.length - (intOf iv).toNat)
  case atStart => exact ⟨0, rfl, by omega, HT, f1, q0⟩
  case round =>
   obtain ⟨i, rfl, hi', HO, f, q⟩ := hrel
   clear HT f1 q0
   have hTw := lt_of_heap q
   obtain ⟨⟨l0, l1, l2, l3, l4, l5, l6⟩, _⟩ := cells7 q
   have hne : ((a, d) :: partsPs (args.take i) (d + 1)).take m ≠ [] := by
    obtain ⟨m', rfl⟩ : ∃ m', m = m' + 1 := ⟨m - 1, by omega⟩
    simp
   have hlm : (((a, d) :: partsPs (args.take i) (d + 1)).take m).length ≤ m := by rw [List.length_take]; omega
   rcases HO.out.form with ⟨_, h⟩ | ⟨g0, c0, hv, hBg, hgs0, _⟩
   ·exact absurd h hne
   ·subst hv
    by_cases hlt : i < args.length ∧ (((a, d) :: partsPs (args.take i) (d + 1)).take m).length < m
    ·obtain ⟨hlt, hroom⟩ := hlt
     obtain ⟨y, hy⟩ : ∃ y, args[i]? = some y := ⟨args[i], List.getElem?_eq_getElem hlt⟩
     have HS : Hid ((((a, d) :: partsPs (args.take (i + 1)) (d + 1)).take m) = (((a, d) :: partsPs (args.take i) (d + 1)).take m) ++ (partsP y (d + 1)).take (m - (((a, d) :: partsPs (args.take i) (d + 1)).take m).length)) := Lib.hid (by
      rw [take_step, partsPs_take hy, List.cons_append])
     have HY := Lib.hid hy
     have hlp : 1 ≤ (((a, d) :: partsPs (args.take i) (d + 1)).take m).length := List.length_pos_iff.2 hne
     clear hy hne
     generalize ((a, d) :: partsPs (args.take i) (d + 1)).take m = L at *
     have hyx := E6.out i y HY.out
     rcases H6.out with ⟨_, _, _, hl⟩ | ⟨g, og, c', hv, hg, hgs, hcs⟩
     ·omega
     ·cases hv
      obtain ⟨hcl, hcc⟩ := hcs i hlt
      have hcell : ∀ (j : Nat) (v : Value), (c6 i)[j]? = some v → wr.cell? ⟨g, og + i * 7 + j, none⟩ = some v := fun j v hj => (f.cell (p := ⟨g, og + i * 7 + j, none⟩) (by simp; omega) (fun x => by cases x)).trans (hcc j v hj)
      have hgw : g < wr.heap.size := Nat.lt_of_lt_of_le hgs (by have := f.size; omega)
      generalize hci : c6 i = ci at *
      have hyw := hyx.keep (w' := wr) (ok' := fun b => b < wr.heap.size) (Sh.of_fr f (fun b hb _ => ⟨by have := f.size; omega, fun x => by cases x⟩))
      cases hyx with
      | @mk k2 a2 nm2 n2 s2 ls2 args2 v52 v62 c52 c62 h52 e52 h62 e62 =>
      have hf5 : ∃ A m cc, v52 = .slice A m cc := by obtain ⟨_, _, hv⟩ := h52.form; exact ⟨_, _, _, hv⟩
      have hf6 : ∃ A m cc, v62 = .slice A m cc := by obtain ⟨_, _, hv⟩ := h62.form; exact ⟨_, _, _, hv⟩
      clear h52 e52 h62 e62
      obtain ⟨A52, m52, cc52, rfl⟩ := hf5
      obtain ⟨A62, m62, cc62, rfl⟩ := hf6
      have x0 : wr.cell? ⟨g, og + i * 7, none⟩ = some (.int .i64 k2) := hcell 0 _ rfl
      have x1 : wr.cell? ⟨g, og + i * 7 + 1, none⟩ = some (.int .i64 a2) := hcell 1 _ rfl
      have x2 : wr.cell? ⟨g, og + i * 7 + 2, none⟩ = some (.string ⟨nm2.toArray⟩) := hcell 2 _ rfl
      have x3 : wr.cell? ⟨g, og + i * 7 + 3, none⟩ = some (.int .i64 n2) := hcell 3 _ rfl
      have x4 : wr.cell? ⟨g, og + i * 7 + 4, none⟩ = some (.string ⟨s2.toArray⟩) := hcell 4 _ rfl
      have x5 : wr.cell? ⟨g, og + i * 7 + 5, none⟩ = some (.slice A52 m52 cc52) := hcell 5 _ rfl
      have x6 : wr.cell? ⟨g, og + i * 7 + 6, none⟩ = some (.slice A62 m62 cc62) := hcell 6 _ rfl
      have hsz2 := szPs_get HY.out
      have cP := Lib.hid (IH.out k2 a2 nm2 n2 s2 ls2 args2 (.slice A52 m52 cc52) (.slice A62 m62 cc62) (d + 1) (D + 1) (m - L.length) ((m : Int) - (L.length : Int)) wr (by have := HN.out; omega) (by rw [HD.out]; simp) (by have := HB.out; omega) (by omega) (HBD.out i _ HY.out) hyw)
      clear hcell hci hcc hcs hcl hyw hg
      have q1 : (0 : Int) ≤ (i : Int) := by omega
      have q2 : (i : Int) < (args.length : Int) := by omega
      have q3 : (L.length : Int) < (m : Int) := by omega
      go_wp2_with fail
      refine cP.out.mono ?_
      rintro e w3 ⟨v3, rfl, O3, f3⟩
      clear cP
      have O0 := HO.out.fr f3
      have q := f3.keep q (fun x => by cases x)
      have F := f.trans f3
      have hcl : ((partsP (.mk k2 a2 nm2 n2 s2 ls2 args2) (d + 1)).take (m - L.length)).length ≤ m - L.length := by rw [List.length_take]; omega
      have hcn : (partsP (.mk k2 a2 nm2 n2 s2 ls2 args2) (d + 1)).take (m - L.length) ≠ [] := by
       rw [partsP_mk]
       obtain ⟨m', hm'⟩ : ∃ m', m - L.length = m' + 1 := ⟨m - L.length - 1, by omega⟩
       rw [hm']; simp
      generalize (partsP (.mk k2 a2 nm2 n2 s2 ls2 args2) (d + 1)).take (m - L.length) = C at *
      rcases O3.form with ⟨_, h⟩ | ⟨g3, c3, rfl, _, hg3, hnews⟩
      ·exact absurd h hcn
      ·have hi := HI.out
       have hz0 := HZ0.out
       have hz1 := HZ1.out
       have hz2 := HZ2.out
       clear hcn f3
       go_wp2_with (at_builtin; refine wpList_append_fp _ rfl _ _ 33 rfl 36 i0 _ 2 16 Tryz.underlying33 hi hz0 hz1 hz2 rfl (by decide) _ _ _ rfl O0.1 ⟨g3, 0, none⟩ C.length c3 (ptsC C) rfl (ptsC_len _) ?c4a (ptsC_one _) ?c4b ?c4c ?_)
       case c4a => exact hnews
       case c4b => unfold maxLen; omega
       case c4c => omega
       intro v4 z4 hown4 hgrow4 hfp4
       obtain ⟨O4, F4, K4⟩ := O0.app (by have := F.size; have := lt_of_heap q; omega) hown4 hgrow4 hfp4
       have HO4 : Hid (OwnPt (T + 1) v4 (((a, d) :: partsPs (args.take (i + 1)) (d + 1)).take m) z4) := Lib.hid (by rw [HS.out]; exact O4)
       have q := K4 T _ (by omega) q
       have F := F4 w F (by omega)
       clear hown4 hgrow4 hfp4 O4 F4 K4 O0 O3 hnews HS HO hi hz0 hz1 hz2
       go_wp2_with fail
       go_roundw
       case rel => exact ⟨i + 1, by go_num, by omega, HO4, F, q⟩
       case measure => simp [intOf]; omega
    ·have HR : Hid (OwnPt T (.slice (some ⟨g0, 0, none⟩) (((a, d) :: partsPs (args.take i) (d + 1)).take m).length c0) (((a, d) :: partsPs args (d + 1)).take m) wr) := Lib.hid (by
      have e : ((a, d) :: partsPs (args.take i) (d + 1)).take m = ((a, d) :: partsPs args (d + 1)).take m := by
       by_cases h1 : i < args.length
       ·have h2 := take_full ((a, d) :: partsPs (args.take i) (d + 1)) (partsPs (args.drop i) (d + 1)) m (by omega)
        rw [h2, List.cons_append, ← partsPs_app, List.take_append_drop]
       ·have e3 : args.take i = args := List.take_of_length_le (by omega)
        rw [e3]
      rw [← e]
      exact HO.out.weak (by omega))
     have hrm : i < args.length → ¬ (((a, d) :: partsPs (args.take i) (d + 1)).take m).length < m := fun h1 h => hlt ⟨h1, h⟩
     clear HO hne hlt
     generalize (((a, d) :: partsPs (args.take i) (d + 1)).take m).length = r at *
     by_cases h1 : i < args.length
     ·have h2 : ¬ (r : Int) < (m : Int) := by have := hrm h1; omega
      have q2 : (i : Int) < (args.length : Int) := by omega
      go_wp2_with fail
      go_ret
      exact ⟨_, rfl, HR.out, f⟩
     ·have q2 : ¬ (i : Int) < (args.length : Int) := by omega
      go_wp2_with fail
      go_ret
      exact ⟨_, rfl, HR.out, f⟩
theorem ppa_all : ∀ N, PPA N
 | 0 => fun _ _ _ _ _ _ _ _ _ _ _ _ _ _ h => absurd h (Nat.not_lt_zero _)
 | N + 1 => ppa_step N (ppa_all N)
end Go.Proofs.YtpjkfeehgookkaaGreatDoor
namespace Go.Proofs.YtpjkfeehgookkaaGreatDoor
open Go.RowKit
attribute [local go_sem ↓] Go.wp_at_zero Go.wp_at_succ
def PXA (N : Nat) : Prop := ∀ (k a : Int) (nm : List UInt8) (n : Int) (s : List UInt8) (ls : List (List UInt8)) (args : List ExprT) (arms : List (PatT × ExprT)) (v5 v6 v7 : Value) (d : Nat) (D : Int) (m : Nat) (M : Int) (w : World), szE (.mk k a nm n s ls args arms) < N → D = d → d + m ≤ 4398046511104 → M = m → BdE 4398046511104 (.mk k a nm n s ls args arms) →
  ExprAt w (fun b => b < w.heap.size) (.mk k a nm n s ls args arms) [.int .i64 k, .int .i64 a, .string ⟨nm.toArray⟩, .int .i64 n, .string ⟨s.toArray⟩, v5, v6, v7] →
  Calls Tryz.prog 15 #[.agg #[.int .i64 k, .int .i64 a, .string ⟨nm.toArray⟩, .int .i64 n, .string ⟨s.toArray⟩, v5, v6, v7], .int .i64 D, .int .i64 M] w fun e w' => ∃ v, e = .returned v ∧ OwnPt w.heap.size v ((partsE (.mk k a nm n s ls args arms) d).take m) w' ∧ Fr [] w w'
set_option maxHeartbeats 16000000 in
set_option maxRecDepth 100000 in
theorem pxa_step (N : Nat) (ih : PXA N) : PXA (N + 1) := by
 intro k a nm n s ls args arms v5 v6 v7 d D m M w hN hD hb hM hbd hx
 subst hM
 have hm : m ≤ 4398046511104 := by omega
 cases hx with
 | mk c5 c6 cp ce h5 e5 h6 e6 h7 e7 e8 =>
 have hsz : szE (.mk k a nm n s ls args arms) = 1 + (szEs args + szAs arms) := by simp [szE]
 rw [hsz] at hN
 cases hbd with
 | mk bd1 bd2 bd3 bd4 bd5 =>
 have HBD2 := Lib.hid bd2
 have HBD4 := Lib.hid bd4
 have HBD5 := Lib.hid bd5
 rw [partsE_mk]
 have hform : ∃ A6 m6 cc6, v6 = .slice A6 m6 cc6 ∧ m6 = args.length := by
  obtain ⟨_, _, hv⟩ := h6.form
  exact ⟨_, _, _, hv, rfl⟩
 obtain ⟨A6, m6, cc6, rfl, rfl⟩ := hform
 have hform : ∃ A7 m7 cc7, v7 = .slice A7 m7 cc7 ∧ m7 = arms.length := by
  obtain ⟨_, _, hv⟩ := h7.form
  exact ⟨_, _, _, hv, rfl⟩
 obtain ⟨A7, m7, cc7, rfl, rfl⟩ := hform
 have hform : ∃ A5 m5 cc5, v5 = .slice A5 m5 cc5 := by obtain ⟨_, _, hv⟩ := h5.form; exact ⟨_, _, _, hv⟩
 obtain ⟨A5, m5, cc5, rfl⟩ := hform
 have IH := Lib.hid ih
 have H6 := Lib.hid h6
 have H7 := Lib.hid h7
 have E6 : Hid (∀ (i : Nat) (x : ExprT), args[i]? = some x → ExprAt w (fun b => b < w.heap.size) x (c6 i)) := Lib.hid e6
 have E7 : Hid (∀ (i : Nat) (p : PatT) (x : ExprT), arms[i]? = some (p, x) → PatAt w (fun b => b < w.heap.size) p (cp i)) := Lib.hid e7
 have E8 : Hid (∀ (i : Nat) (p : PatT) (x : ExprT), arms[i]? = some (p, x) → ExprAt w (fun b => b < w.heap.size) x (ce i)) := Lib.hid e8
 have HN := Lib.hid hN
 have hdn : (0 : Int) ≤ D := by omega
 have hdx : D ≤ 4398046511104 := by omega
 have HD := Lib.hid hD
 have hm6 : (args.length : Int) ≤ 4611686018427387903 := by omega
 have hm7 : (arms.length : Int) ≤ 4611686018427387903 := by omega
 obtain ⟨i0, hi, hz0, hz1, hz2⟩ := info_parts infoPart
 have HI := Lib.hid hi
 have HZ0 := Lib.hid hz0
 have HZ1 := Lib.hid hz1
 have HZ2 := Lib.hid hz2
 have HB := Lib.hid hb
 clear ih h5 e5 h6 e6 h7 e7 e8 hN hsz hi hz0 hz1 hz2 hD hb bd2 bd4 bd5
 go_enter Tryz.func15, Tryz.ntmps15
 by_cases hm0 : m = 0
 ·subst hm0
  go_wp2_with fail
  have f0 : Fr [] w (w.alloc (.cells #[.int .i64 k, .int .i64 a, .string ⟨nm.toArray⟩, .int .i64 n, .string ⟨s.toArray⟩, .slice A5 m5 cc5, .slice A6 args.length cc6, .slice A7 arms.length cc7] 27)) := (Fr.refl [] w).alloc _
  go_ret
  exact ⟨_, rfl, OwnPt.nil_ _ _, f0⟩
 ·have hM0 : ¬ (m : Int) ≤ 0 := by omega
  have hMx : (m : Int) ≤ 4398046511104 := by omega
  have hs1 : (w.alloc (.cells #[.int .i64 k, .int .i64 a, .string ⟨nm.toArray⟩, .int .i64 n, .string ⟨s.toArray⟩, .slice A5 m5 cc5, .slice A6 args.length cc6, .slice A7 arms.length cc7] 27)).heap.size = w.heap.size + 1 := by simp
  have hown : OwnPt (w.heap.size + 1) (.slice (some ⟨w.heap.size + 1, 0, none⟩) 1 1) (((a, d) :: partsEs (args.take 0) (d + 1)).take m) ((w.alloc (.cells #[.int .i64 k, .int .i64 a, .string ⟨nm.toArray⟩, .int .i64 n, .string ⟨s.toArray⟩, .slice A5 m5 cc5, .slice A6 args.length cc6, .slice A7 arms.length cc7] 27)).alloc (.cells #[.int .i64 a, .int .i64 D] 36)) := by
   have e : ((a, d) :: partsEs (args.take 0) (d + 1)).take m = [(a, d)] := by
    obtain ⟨m', rfl⟩ : ∃ m', m = m' + 1 := ⟨m - 1, by omega⟩
    simp [partsEs]
   rw [e]
   refine ⟨?_, fun g hg => by simp [Value.ownBlock] at hg; omega⟩
   have := World.ownsRow_lit (base := 0) (e := 36) (size := 2) (w.alloc (.cells #[.int .i64 k, .int .i64 a, .string ⟨nm.toArray⟩, .int .i64 n, .string ⟨s.toArray⟩, .slice A5 m5 cc5, .slice A6 args.length cc6, .slice A7 arms.length cc7] 27)) #[.int .i64 a, .int .i64 D] 1 (Nat.zero_le _) (by decide) (by simp)
   rw [hs1] at this
   have hDD := HD.out
   subst hDD
   simpa [ptsC, ptC] using this
  have HT := Lib.hid hown
  have f1 : Fr [] w ((w.alloc (.cells #[.int .i64 k, .int .i64 a, .string ⟨nm.toArray⟩, .int .i64 n, .string ⟨s.toArray⟩, .slice A5 m5 cc5, .slice A6 args.length cc6, .slice A7 arms.length cc7] 27)).alloc (.cells #[.int .i64 a, .int .i64 D] 36)) := ((Fr.refl [] w).alloc _).alloc _
  have q0 := heap_old (heap_new w (.cells #[.int .i64 k, .int .i64 a, .string ⟨nm.toArray⟩, .int .i64 n, .string ⟨s.toArray⟩, .slice A5 m5 cc5, .slice A6 args.length cc6, .slice A7 arms.length cc7] 27)) (.cells #[.int .i64 a, .int .i64 D] 36)
  clear hown hs1
  go_wp2_with fail
  generalize (w.alloc (.cells #[.int .i64 k, .int .i64 a, .string ⟨nm.toArray⟩, .int .i64 n, .string ⟨s.toArray⟩, .slice A5 m5 cc5, .slice A6 args.length cc6, .slice A7 arms.length cc7] 27)).alloc (.cells #[.int .i64 a, .int .i64 D] 36) = w2 at *
  generalize hT : w.heap.size = T at *
  go_loopw [7, 8] (fun v iv wr => ∃ (i : Nat), iv = .int .i64 i ∧ i ≤ args.length ∧ Hid (OwnPt (T + 1) v (((a, d) :: partsEs (args.take i) (d + 1)).take m) wr) ∧ Fr [] w wr ∧ wr.heap[T]? = some (.cells #[.int .i64 k, .int .i64 a, .string ⟨nm.toArray⟩, .int .i64 n, .string ⟨s.toArray⟩, .slice A5 m5 cc5, .slice A6 args.length cc6, .slice A7 arms.length cc7] 27 (0, 0))) (fun _ iv _ => args.length - (intOf iv).toNat)
  case atStart => exact ⟨0, rfl, by omega, HT, f1, q0⟩
  case round =>
   clear HT f1 q0
   obtain ⟨i, rfl, hi', HO, f, q⟩ := hrel
   have hTw := lt_of_heap q
   obtain ⟨⟨l0, l1, l2, l3, l4, l5, l6, l7⟩, _⟩ := cells8 q
   have hne : ((a, d) :: partsEs (args.take i) (d + 1)).take m ≠ [] := by
    obtain ⟨m', rfl⟩ : ∃ m', m = m' + 1 := ⟨m - 1, by omega⟩
    simp
   have hlm : (((a, d) :: partsEs (args.take i) (d + 1)).take m).length ≤ m := by rw [List.length_take]; omega
   rcases HO.out.form with ⟨_, h⟩ | ⟨g0, c0, hv, hBg, hgs0, _⟩
   ·exact absurd h hne
   ·subst hv
    by_cases hlt : i < args.length ∧ (((a, d) :: partsEs (args.take i) (d + 1)).take m).length < m
    ·obtain ⟨hlt, hroom⟩ := hlt
     obtain ⟨y, hy⟩ : ∃ y, args[i]? = some y := ⟨args[i], List.getElem?_eq_getElem hlt⟩
     have HS : Hid ((((a, d) :: partsEs (args.take (i + 1)) (d + 1)).take m) = (((a, d) :: partsEs (args.take i) (d + 1)).take m) ++ (partsE y (d + 1)).take (m - (((a, d) :: partsEs (args.take i) (d + 1)).take m).length)) := Lib.hid (by
      rw [take_step, partsEs_take hy, List.cons_append])
     have HY := Lib.hid hy
     have hlp : 1 ≤ (((a, d) :: partsEs (args.take i) (d + 1)).take m).length := List.length_pos_iff.2 hne
     clear hy hne
     generalize ((a, d) :: partsEs (args.take i) (d + 1)).take m = L at *
     have hyx := E6.out i y HY.out
     rcases H6.out with ⟨_, _, _, hl⟩ | ⟨g, og, c', hv, hg, hgs, hcs⟩
     ·omega
     ·cases hv
      obtain ⟨hcl, hcc⟩ := hcs i hlt
      have hcell : ∀ (W : World), Fr [] w W → ∀ (j : Nat) (v : Value), (c6 i)[j]? = some v → W.cell? ⟨g, og + i * 8 + j, none⟩ = some v := fun W hW j v hj => (hW.cell (p := ⟨g, og + i * 8 + j, none⟩) (by simp; omega) (fun x => by cases x)).trans (hcc j v hj)
      have hgw : g < wr.heap.size := Nat.lt_of_lt_of_le hgs (by have := f.size; omega)
      generalize hci : c6 i = ci at *
      have hyw := hyx.keep (w' := wr) (ok' := fun b => b < wr.heap.size) (Sh.of_fr f (fun b hb _ => ⟨by have := f.size; omega, fun x => by cases x⟩))
      cases hyx with
      | @mk k2 a2 nm2 n2 s2 ls2 args2 arms2 v52 v62 v72 c52 c62 cp2 ce2 h52 e52 h62 e62 h72 e72 e82 =>
      have hf : ∃ A m cc, v52 = .slice A m cc := by obtain ⟨_, _, hv⟩ := h52.form; exact ⟨_, _, _, hv⟩
      obtain ⟨A52, m52, cc52, rfl⟩ := hf
      have hf : ∃ A m cc, v62 = .slice A m cc := by obtain ⟨_, _, hv⟩ := h62.form; exact ⟨_, _, _, hv⟩
      obtain ⟨A62, m62, cc62, rfl⟩ := hf
      have hf : ∃ A m cc, v72 = .slice A m cc := by obtain ⟨_, _, hv⟩ := h72.form; exact ⟨_, _, _, hv⟩
      obtain ⟨A72, m72, cc72, rfl⟩ := hf
      clear h52 e52 h62 e62 h72 e72 e82
      have x0 : wr.cell? ⟨g, og + i * 8, none⟩ = some (.int .i64 k2) := hcell wr f 0 _ rfl
      have x1 : wr.cell? ⟨g, og + i * 8 + 1, none⟩ = some (.int .i64 a2) := hcell wr f 1 _ rfl
      have x2 : wr.cell? ⟨g, og + i * 8 + 2, none⟩ = some (.string ⟨nm2.toArray⟩) := hcell wr f 2 _ rfl
      have x3 : wr.cell? ⟨g, og + i * 8 + 3, none⟩ = some (.int .i64 n2) := hcell wr f 3 _ rfl
      have x4 : wr.cell? ⟨g, og + i * 8 + 4, none⟩ = some (.string ⟨s2.toArray⟩) := hcell wr f 4 _ rfl
      have x5 : wr.cell? ⟨g, og + i * 8 + 5, none⟩ = some (.slice A52 m52 cc52) := hcell wr f 5 _ rfl
      have x6 : wr.cell? ⟨g, og + i * 8 + 6, none⟩ = some (.slice A62 m62 cc62) := hcell wr f 6 _ rfl
      have x7 : wr.cell? ⟨g, og + i * 8 + 7, none⟩ = some (.slice A72 m72 cc72) := hcell wr f 7 _ rfl
      have hsz2 := szEs_get HY.out
      have cP := Lib.hid (IH.out k2 a2 nm2 n2 s2 ls2 args2 arms2 (.slice A52 m52 cc52) (.slice A62 m62 cc62) (.slice A72 m72 cc72) (d + 1) (D + 1) (m - L.length) ((m : Int) - (L.length : Int)) wr (by have := HN.out; omega) (by rw [HD.out]; simp) (by have := HB.out; omega) (by omega) (HBD2.out i _ HY.out) hyw)
      clear hcell hci hcc hcs hcl hyw hg
      have q1 : (0 : Int) ≤ (i : Int) := by omega
      have q2 : (i : Int) < (args.length : Int) := by omega
      have q3 : (L.length : Int) < (m : Int) := by omega
      go_wp2_with fail
      refine cP.out.mono ?_
      rintro e w3 ⟨v3, rfl, O3, f3⟩
      clear cP
      have O0 := HO.out.fr f3
      replace q := f3.keep q (fun x => by cases x)
      have F := f.trans f3
      have hcl : ((partsE (.mk k2 a2 nm2 n2 s2 ls2 args2 arms2) (d + 1)).take (m - L.length)).length ≤ m - L.length := by rw [List.length_take]; omega
      have hcn : (partsE (.mk k2 a2 nm2 n2 s2 ls2 args2 arms2) (d + 1)).take (m - L.length) ≠ [] := by
       rw [partsE_mk]
       obtain ⟨m', hm'⟩ : ∃ m', m - L.length = m' + 1 := ⟨m - L.length - 1, by omega⟩
       rw [hm']; simp
      generalize (partsE (.mk k2 a2 nm2 n2 s2 ls2 args2 arms2) (d + 1)).take (m - L.length) = C at *
      rcases O3.form with ⟨_, h⟩ | ⟨g3, c3, rfl, _, hg3, hnews⟩
      ·exact absurd h hcn
      ·clear hcn f3
       have hi := HI.out
       have hz0 := HZ0.out
       have hz1 := HZ1.out
       have hz2 := HZ2.out
       go_wp2_with (at_builtin; refine wpList_append_fp _ rfl _ _ 33 rfl 36 i0 _ 2 16 Tryz.underlying33 hi hz0 hz1 hz2 rfl (by decide) _ _ _ rfl O0.1 ⟨g3, 0, none⟩ C.length c3 (ptsC C) rfl (ptsC_len _) ?c4a (ptsC_one _) ?c4b ?c4c ?_)
       case c4a => exact hnews
       case c4b => unfold maxLen; omega
       case c4c => omega
       intro v4 z4 hown4 hgrow4 hfp4
       obtain ⟨O4, F4, K4⟩ := OwnPt.app O0 (by have := F.size; have := lt_of_heap q; omega) hown4 hgrow4 hfp4
       replace q := K4 T _ (by omega) q
       replace F := F4 w F (by omega)
       clear hown4 hgrow4 hfp4 F4 K4 hi hz0 hz1 hz2
       have HO4 : Hid (OwnPt (T + 1) v4 (((a, d) :: partsEs (args.take (i + 1)) (d + 1)).take m) z4) := Lib.hid (by rw [HS.out]; exact O4)
       clear O4 O0 O3 hnews HS HO
       go_wp2_with fail
       go_roundw
       case rel => exact ⟨i + 1, by go_num, by omega, HO4, F, q⟩
       case measure => simp [intOf]; omega
    ·have HS1 : Hid (OwnPt (T + 1) (.slice (some ⟨g0, 0, none⟩) (((a, d) :: partsEs (args.take i) (d + 1)).take m).length c0) (((a, d) :: partsEs args (d + 1)).take m) wr) := Lib.hid (by
      have e : ((a, d) :: partsEs (args.take i) (d + 1)).take m = ((a, d) :: partsEs args (d + 1)).take m := by
       by_cases h1 : i < args.length
       ·have h2 := take_full ((a, d) :: partsEs (args.take i) (d + 1)) (partsEs (args.drop i) (d + 1)) m (Nat.le_of_not_lt fun h => hlt ⟨h1, h⟩)
        rw [h2, List.cons_append, ← partsEs_app, List.take_append_drop]
       ·have e3 : args.take i = args := List.take_of_length_le (by omega)
        rw [e3]
      rw [← e]
      exact HO.out)
     have hrm : i < args.length → ¬ (((a, d) :: partsEs (args.take i) (d + 1)).take m).length < m := fun h1 h => hlt ⟨h1, h⟩
     clear HO hne hlt hlm
     generalize (((a, d) :: partsEs (args.take i) (d + 1)).take m).length = r at *
     by_cases h1 : i < args.length
     ·have h2 : ¬ (r : Int) < (m : Int) := by have := hrm h1; omega
      have q2 : (i : Int) < (args.length : Int) := by omega
      go_wp2_with fail
      clear l0 l1 l2 l3 l4 l5 l6 l7 h2 q2 h1 hrm hi' hBg hgs0 hTw H6 E6
      go_loopw [7, 9] (fun v iv wr => ∃ (i : Nat), iv = .int .i64 i ∧ i ≤ arms.length ∧ Hid (OwnPt (T + 1) v ((((a, d) :: partsEs args (d + 1)) ++ partsAs (arms.take i) (d + 1)).take m) wr) ∧ Fr [] w wr ∧ wr.heap[T]? = some (.cells #[.int .i64 k, .int .i64 a, .string ⟨nm.toArray⟩, .int .i64 n, .string ⟨s.toArray⟩, .slice A5 m5 cc5, .slice A6 args.length cc6, .slice A7 arms.length cc7] 27 (0, 0))) (fun _ iv _ => arms.length - (intOf iv).toNat)
      case atStart => exact ⟨0, rfl, by omega, Lib.hid (by rw [show partsAs (arms.take 0) (d + 1) = [] by simp [partsAs], List.append_nil]; exact HS1.out), f, q⟩
      case round =>
       clear HS1 f q
       obtain ⟨i, rfl, hi', HO, F, q⟩ := hrel
       have hTw := lt_of_heap q
       obtain ⟨⟨l0, l1, l2, l3, l4, l5, l6, l7⟩, _⟩ := cells8 q
       have hne : (((a, d) :: partsEs args (d + 1)) ++ partsAs (arms.take i) (d + 1)).take m ≠ [] := by
        obtain ⟨m', rfl⟩ : ∃ m', m = m' + 1 := ⟨m - 1, by omega⟩
        simp
       have hlm : ((((a, d) :: partsEs args (d + 1)) ++ partsAs (arms.take i) (d + 1)).take m).length ≤ m := by rw [List.length_take]; omega
       rcases HO.out.form with ⟨_, h⟩ | ⟨g0, c0, hv, hBg, hgs0, _⟩
       ·exact absurd h hne
       ·subst hv
        by_cases hlt : i < arms.length ∧ ((((a, d) :: partsEs args (d + 1)) ++ partsAs (arms.take i) (d + 1)).take m).length < m
        ·obtain ⟨hlt, hroom⟩ := hlt
         obtain ⟨p, y, hy⟩ : ∃ p y, arms[i]? = some (p, y) := ⟨(arms[i]).1, (arms[i]).2, List.getElem?_eq_getElem hlt⟩
         have HS : Hid (((((a, d) :: partsEs args (d + 1)) ++ partsAs (arms.take (i + 1)) (d + 1)).take m) = (((((a, d) :: partsEs args (d + 1)) ++ partsAs (arms.take i) (d + 1)).take m) ++ (partsP p (d + 1)).take (m - ((((a, d) :: partsEs args (d + 1)) ++ partsAs (arms.take i) (d + 1)).take m).length)) ++ (partsE y (d + 1)).take (m - (((((a, d) :: partsEs args (d + 1)) ++ partsAs (arms.take i) (d + 1)).take m) ++ (partsP p (d + 1)).take (m - ((((a, d) :: partsEs args (d + 1)) ++ partsAs (arms.take i) (d + 1)).take m).length)).length)) := Lib.hid (by
          rw [take_step, take_step, partsAs_take hy]
          simp only [List.append_assoc])
         have HY := Lib.hid hy
         have hlp : 1 ≤ ((((a, d) :: partsEs args (d + 1)) ++ partsAs (arms.take i) (d + 1)).take m).length := List.length_pos_iff.2 hne
         clear hy hne
         generalize (((a, d) :: partsEs args (d + 1)) ++ partsAs (arms.take i) (d + 1)).take m = L at *
         have hpx := E7.out i p y HY.out
         have hyx := E8.out i p y HY.out
         rcases H7.out with ⟨_, _, _, hl⟩ | ⟨g, og, c', hv, hg, hgs, hcs⟩
         ·omega
         ·cases hv
          obtain ⟨hcl, hcc⟩ := hcs i hlt
          have hcell : ∀ (W : World), Fr [] w W → ∀ (j : Nat) (v : Value), (cp i ++ ce i)[j]? = some v → W.cell? ⟨g, og + i * 15 + j, none⟩ = some v := fun W hW j v hj => (hW.cell (p := ⟨g, og + i * 15 + j, none⟩) (by simp; omega) (fun x => by cases x)).trans (hcc j v hj)
          have hgw : g < wr.heap.size := Nat.lt_of_lt_of_le hgs (by have := F.size; omega)
          generalize hci : cp i = ci at *
          generalize hce : ce i = cj at *
          have hpw := hpx.keep (w' := wr) (ok' := fun b => b < wr.heap.size) (Sh.of_fr F (fun b hb _ => ⟨by have := F.size; omega, fun x => by cases x⟩))
          have HYX := Lib.hid hyx
          cases hpx with
          | @mk k3 a3 nm3 n3 s3 ls3 args3 v53 v63 c53 c63 h53 e53 h63 e63 =>
          cases hyx with
          | @mk k2 a2 nm2 n2 s2 ls2 args2 arms2 v52 v62 v72 c52 c62 cp2 ce2 h52 e52 h62 e62 h72 e72 e82 =>
          have hf : ∃ A m cc, v53 = .slice A m cc := by obtain ⟨_, _, hv⟩ := h53.form; exact ⟨_, _, _, hv⟩
          obtain ⟨A53, m53, cc53, rfl⟩ := hf
          have hf : ∃ A m cc, v63 = .slice A m cc := by obtain ⟨_, _, hv⟩ := h63.form; exact ⟨_, _, _, hv⟩
          obtain ⟨A63, m63, cc63, rfl⟩ := hf
          have hf : ∃ A m cc, v52 = .slice A m cc := by obtain ⟨_, _, hv⟩ := h52.form; exact ⟨_, _, _, hv⟩
          obtain ⟨A52, m52, cc52, rfl⟩ := hf
          have hf : ∃ A m cc, v62 = .slice A m cc := by obtain ⟨_, _, hv⟩ := h62.form; exact ⟨_, _, _, hv⟩
          obtain ⟨A62, m62, cc62, rfl⟩ := hf
          have hf : ∃ A m cc, v72 = .slice A m cc := by obtain ⟨_, _, hv⟩ := h72.form; exact ⟨_, _, _, hv⟩
          obtain ⟨A72, m72, cc72, rfl⟩ := hf
          clear h52 e52 h62 e62 h72 e72 e82 h53 e53 h63 e63
          have x0 : wr.cell? ⟨g, og + i * 15, none⟩ = some (.int .i64 k3) := hcell wr F 0 _ rfl
          have x1 : wr.cell? ⟨g, og + i * 15 + 1, none⟩ = some (.int .i64 a3) := hcell wr F 1 _ rfl
          have x2 : wr.cell? ⟨g, og + i * 15 + 2, none⟩ = some (.string ⟨nm3.toArray⟩) := hcell wr F 2 _ rfl
          have x3 : wr.cell? ⟨g, og + i * 15 + 3, none⟩ = some (.int .i64 n3) := hcell wr F 3 _ rfl
          have x4 : wr.cell? ⟨g, og + i * 15 + 4, none⟩ = some (.string ⟨s3.toArray⟩) := hcell wr F 4 _ rfl
          have x5 : wr.cell? ⟨g, og + i * 15 + 5, none⟩ = some (.slice A53 m53 cc53) := hcell wr F 5 _ rfl
          have x6 : wr.cell? ⟨g, og + i * 15 + 6, none⟩ = some (.slice A63 m63 cc63) := hcell wr F 6 _ rfl
          have hsz2 := szAs_get HY.out
          have cP := Lib.hid (ppa_all (szP (.mk k3 a3 nm3 n3 s3 ls3 args3) + 1) k3 a3 nm3 n3 s3 ls3 args3 (.slice A53 m53 cc53) (.slice A63 m63 cc63) (d + 1) (D + 1) (m - L.length) ((m : Int) - (L.length : Int)) wr (by omega) (by rw [HD.out]; simp) (by have := HB.out; omega) (by omega) (HBD4.out i _ _ HY.out) hpw)
          have HC := Lib.hid hcell
          clear hcell hci hce hcc hcs hcl hpw hg
          have q1 : (0 : Int) ≤ (i : Int) := by omega
          have q2 : (i : Int) < (arms.length : Int) := by omega
          have q3 : (L.length : Int) < (m : Int) := by omega
          go_wp2_with fail
          refine cP.out.mono ?_
          rintro e w3 ⟨v3, rfl, O3, f3⟩
          clear cP x0 x1 x2 x3 x4 x5 x6 l0 l1 l2 l3 l4 l5 l6 l7
          have O0 := HO.out.fr f3
          replace q := f3.keep q (fun x => by cases x)
          replace F := F.trans f3
          have hcl : ((partsP (.mk k3 a3 nm3 n3 s3 ls3 args3) (d + 1)).take (m - L.length)).length ≤ m - L.length := by rw [List.length_take]; omega
          have hcn : (partsP (.mk k3 a3 nm3 n3 s3 ls3 args3) (d + 1)).take (m - L.length) ≠ [] := by
           rw [partsP_mk]
           obtain ⟨m', hm'⟩ : ∃ m', m - L.length = m' + 1 := ⟨m - L.length - 1, by omega⟩
           rw [hm']; simp
          generalize (partsP (.mk k3 a3 nm3 n3 s3 ls3 args3) (d + 1)).take (m - L.length) = C at *
          rcases O3.form with ⟨_, h⟩ | ⟨g3, c3, rfl, _, hg3, hnews⟩
          ·exact absurd h hcn
          ·clear f3
           have hi := HI.out
           have hz0 := HZ0.out
           have hz1 := HZ1.out
           have hz2 := HZ2.out
           go_wp2_with (at_builtin; refine wpList_append_fp _ rfl _ _ 33 rfl 36 i0 _ 2 16 Tryz.underlying33 hi hz0 hz1 hz2 rfl (by decide) _ _ _ rfl O0.1 ⟨g3, 0, none⟩ C.length c3 (ptsC C) rfl (ptsC_len _) ?c4a (ptsC_one _) ?c4b ?c4c ?_)
           case c4a => exact hnews
           case c4b => unfold maxLen; omega
           case c4c => omega
           intro v4 z4 hown4 hgrow4 hfp4
           obtain ⟨O4, F4, K4⟩ := OwnPt.app O0 (by have := F.size; have := lt_of_heap q; omega) hown4 hgrow4 hfp4
           replace q := K4 T _ (by omega) q
           replace F := F4 w F (by omega)
           clear hown4 hgrow4 hfp4 F4 K4 hi hz0 hz1 hz2
           clear O0 O3 hnews HO
           have hLCn : L ++ C ≠ [] := fun h => hcn (List.append_eq_nil_iff.1 h).2
           have hLC : (L ++ C).length ≤ m := by rw [List.length_append]; omega
           clear hcn hcl hlm hroom q3
           have hlp2 : 1 ≤ (L ++ C).length := by rw [List.length_append]; omega
           generalize L ++ C = L2 at *
           rcases O4.form with ⟨_, h⟩ | ⟨g4, c4, rfl, _, hg4, _⟩
           ·exact absurd h hLCn
           ·have HO4 := Lib.hid O4
            clear O4 hLCn
            have hTw := lt_of_heap q
            obtain ⟨⟨l0, l1, l2, l3, l4, l5, l6, l7⟩, _⟩ := cells8 q
            have y0 : z4.cell? ⟨g, og + i * 15 + 7, none⟩ = some (.int .i64 k2) := HC.out z4 F 7 _ rfl
            have y1 : z4.cell? ⟨g, og + i * 15 + 8, none⟩ = some (.int .i64 a2) := HC.out z4 F 8 _ rfl
            have y2 : z4.cell? ⟨g, og + i * 15 + 9, none⟩ = some (.string ⟨nm2.toArray⟩) := HC.out z4 F 9 _ rfl
            have y3 : z4.cell? ⟨g, og + i * 15 + 10, none⟩ = some (.int .i64 n2) := HC.out z4 F 10 _ rfl
            have y4 : z4.cell? ⟨g, og + i * 15 + 11, none⟩ = some (.string ⟨s2.toArray⟩) := HC.out z4 F 11 _ rfl
            have y5 : z4.cell? ⟨g, og + i * 15 + 12, none⟩ = some (.slice A52 m52 cc52) := HC.out z4 F 12 _ rfl
            have y6 : z4.cell? ⟨g, og + i * 15 + 13, none⟩ = some (.slice A62 m62 cc62) := HC.out z4 F 13 _ rfl
            have y7 : z4.cell? ⟨g, og + i * 15 + 14, none⟩ = some (.slice A72 m72 cc72) := HC.out z4 F 14 _ rfl
            have cE := Lib.hid (IH.out k2 a2 nm2 n2 s2 ls2 args2 arms2 (.slice A52 m52 cc52) (.slice A62 m62 cc62) (.slice A72 m72 cc72) (d + 1) (D + 1) (m - L2.length) ((m : Int) - (L2.length : Int)) z4 (by have := HN.out; omega) (by rw [HD.out]; simp) (by have := HB.out; omega) (by omega) (HBD5.out i _ _ HY.out) (HYX.out.keep (Sh.of_fr F (fun b hb _ => ⟨by have := F.size; omega, fun x => by cases x⟩))))
            have hgw4 : g < z4.heap.size := Nat.lt_of_lt_of_le hgs (by have := F.size; omega)
            have q3 : (L2.length : Int) ≤ (m : Int) := by omega
            go_wp2_with fail
            refine cE.out.mono ?_
            rintro e w5 ⟨v5, rfl, O5, f5⟩
            clear cE l0 l1 l2 l3 l4 l5 l6 l7 y0 y1 y2 y3 y4 y5 y6 y7
            have O6 := HO4.out.fr f5
            replace q := f5.keep q (fun x => by cases x)
            replace F := F.trans f5
            have hcl : ((partsE (.mk k2 a2 nm2 n2 s2 ls2 args2 arms2) (d + 1)).take (m - L2.length)).length ≤ m - L2.length := by rw [List.length_take]; omega
            generalize (partsE (.mk k2 a2 nm2 n2 s2 ls2 args2 arms2) (d + 1)).take (m - L2.length) = C2 at *
            rcases O5.form with ⟨rfl, hC2⟩ | ⟨g5, c5, rfl, _, hg5, hnews⟩
            ·subst hC2
             have hi := HI.out
             go_wp2_with (at_builtin; refine wpList_append_own_none rfl _ _ 33 rfl 0 36 i0 2 Tryz.underlying33 hi _ _ _ rfl O6.1 rfl ?_)
             have HO6 : Hid (OwnPt (T + 1) (.slice (some ⟨g4, 0, none⟩) L2.length c4) ((((a, d) :: partsEs args (d + 1)) ++ partsAs (arms.take (i + 1)) (d + 1)).take m) w5) := Lib.hid (by rw [HS.out, List.append_nil]; exact O6)
             clear O6 O5 HS hi
             go_wp2_with fail
             go_roundw
             case rel => exact ⟨i + 1, by go_num, by omega, HO6, F, q⟩
             case measure => simp [intOf]; omega
            ·clear f5
             have hi := HI.out
             have hz0 := HZ0.out
             have hz1 := HZ1.out
             have hz2 := HZ2.out
             go_wp2_with (at_builtin; refine wpList_append_fp _ rfl _ _ 33 rfl 36 i0 _ 2 16 Tryz.underlying33 hi hz0 hz1 hz2 rfl (by decide) _ _ _ rfl O6.1 ⟨g5, 0, none⟩ C2.length c5 (ptsC C2) rfl (ptsC_len _) ?c6a (ptsC_one _) ?c6b ?c6c ?_)
             case c6a => exact hnews
             case c6b => unfold maxLen; omega
             case c6c => omega
             intro v6 z6 hown6 hgrow6 hfp6
             obtain ⟨O6, F6, K6⟩ := OwnPt.app O6 (by have := F.size; have := lt_of_heap q; omega) hown6 hgrow6 hfp6
             replace q := K6 T _ (by omega) q
             replace F := F6 w F (by omega)
             clear hown6 hgrow6 hfp6 F6 K6 hi hz0 hz1 hz2
             have HO6 : Hid (OwnPt (T + 1) v6 ((((a, d) :: partsEs args (d + 1)) ++ partsAs (arms.take (i + 1)) (d + 1)).take m) z6) := Lib.hid (by rw [HS.out]; exact O6)
             clear O6 O5 HS hnews
             go_wp2_with fail
             go_roundw
             case rel => exact ⟨i + 1, by go_num, by omega, HO6, F, q⟩
             case measure => simp [intOf]; omega
        ·have HR : Hid (OwnPt T (.slice (some ⟨g0, 0, none⟩) ((((a, d) :: partsEs args (d + 1)) ++ partsAs (arms.take i) (d + 1)).take m).length c0) (((a, d) :: (partsEs args (d + 1) ++ partsAs arms (d + 1))).take m) wr) := Lib.hid (by
          have e : (((a, d) :: partsEs args (d + 1)) ++ partsAs (arms.take i) (d + 1)).take m = ((a, d) :: (partsEs args (d + 1) ++ partsAs arms (d + 1))).take m := by
           by_cases h1 : i < arms.length
           ·have h2 := take_full (((a, d) :: partsEs args (d + 1)) ++ partsAs (arms.take i) (d + 1)) (partsAs (arms.drop i) (d + 1)) m (Nat.le_of_not_lt fun h => hlt ⟨h1, h⟩)
            rw [h2, List.append_assoc, ← partsAs_app, List.take_append_drop, List.cons_append]
           ·have e3 : arms.take i = arms := List.take_of_length_le (by omega)
            rw [e3, List.cons_append]
          rw [← e]
          exact HO.out.weak (by omega))
         have hrm : i < arms.length → ¬ ((((a, d) :: partsEs args (d + 1)) ++ partsAs (arms.take i) (d + 1)).take m).length < m := fun h1 h => hlt ⟨h1, h⟩
         clear HO hne hlt
         generalize ((((a, d) :: partsEs args (d + 1)) ++ partsAs (arms.take i) (d + 1)).take m).length = r at *
         by_cases h1 : i < arms.length
         ·have h2 : ¬ (r : Int) < (m : Int) := by have := hrm h1; omega
          have q2 : (i : Int) < (arms.length : Int) := by omega
          go_wp2_with fail
          go_ret
          exact ⟨_, rfl, HR.out, F⟩
         ·have q2 : ¬ (i : Int) < (arms.length : Int) := by omega
          go_wp2_with fail
          go_ret
          exact ⟨_, rfl, HR.out, F⟩
     ·have q2 : ¬ (i : Int) < (args.length : Int) := by omega
      go_wp2_with fail
      clear l0 l1 l2 l3 l4 l5 l6 l7 q2 h1 hrm hi' hBg hgs0 hTw H6 E6
      go_loopw [7, 9] (fun v iv wr => ∃ (i : Nat), iv = .int .i64 i ∧ i ≤ arms.length ∧ Hid (OwnPt (T + 1) v ((((a, d) :: partsEs args (d + 1)) ++ partsAs (arms.take i) (d + 1)).take m) wr) ∧ Fr [] w wr ∧ wr.heap[T]? = some (.cells #[.int .i64 k, .int .i64 a, .string ⟨nm.toArray⟩, .int .i64 n, .string ⟨s.toArray⟩, .slice A5 m5 cc5, .slice A6 args.length cc6, .slice A7 arms.length cc7] 27 (0, 0))) (fun _ iv _ => arms.length - (intOf iv).toNat)
      case atStart => exact ⟨0, rfl, by omega, Lib.hid (by rw [show partsAs (arms.take 0) (d + 1) = [] by simp [partsAs], List.append_nil]; exact HS1.out), f, q⟩
      case round =>
       clear HS1 f q
       obtain ⟨i, rfl, hi', HO, F, q⟩ := hrel
       have hTw := lt_of_heap q
       obtain ⟨⟨l0, l1, l2, l3, l4, l5, l6, l7⟩, _⟩ := cells8 q
       have hne : (((a, d) :: partsEs args (d + 1)) ++ partsAs (arms.take i) (d + 1)).take m ≠ [] := by
        obtain ⟨m', rfl⟩ : ∃ m', m = m' + 1 := ⟨m - 1, by omega⟩
        simp
       have hlm : ((((a, d) :: partsEs args (d + 1)) ++ partsAs (arms.take i) (d + 1)).take m).length ≤ m := by rw [List.length_take]; omega
       rcases HO.out.form with ⟨_, h⟩ | ⟨g0, c0, hv, hBg, hgs0, _⟩
       ·exact absurd h hne
       ·subst hv
        by_cases hlt : i < arms.length ∧ ((((a, d) :: partsEs args (d + 1)) ++ partsAs (arms.take i) (d + 1)).take m).length < m
        ·obtain ⟨hlt, hroom⟩ := hlt
         obtain ⟨p, y, hy⟩ : ∃ p y, arms[i]? = some (p, y) := ⟨(arms[i]).1, (arms[i]).2, List.getElem?_eq_getElem hlt⟩
         have HS : Hid (((((a, d) :: partsEs args (d + 1)) ++ partsAs (arms.take (i + 1)) (d + 1)).take m) = (((((a, d) :: partsEs args (d + 1)) ++ partsAs (arms.take i) (d + 1)).take m) ++ (partsP p (d + 1)).take (m - ((((a, d) :: partsEs args (d + 1)) ++ partsAs (arms.take i) (d + 1)).take m).length)) ++ (partsE y (d + 1)).take (m - (((((a, d) :: partsEs args (d + 1)) ++ partsAs (arms.take i) (d + 1)).take m) ++ (partsP p (d + 1)).take (m - ((((a, d) :: partsEs args (d + 1)) ++ partsAs (arms.take i) (d + 1)).take m).length)).length)) := Lib.hid (by
          rw [take_step, take_step, partsAs_take hy]
          simp only [List.append_assoc])
         have HY := Lib.hid hy
         have hlp : 1 ≤ ((((a, d) :: partsEs args (d + 1)) ++ partsAs (arms.take i) (d + 1)).take m).length := List.length_pos_iff.2 hne
         clear hy hne
         generalize (((a, d) :: partsEs args (d + 1)) ++ partsAs (arms.take i) (d + 1)).take m = L at *
         have hpx := E7.out i p y HY.out
         have hyx := E8.out i p y HY.out
         rcases H7.out with ⟨_, _, _, hl⟩ | ⟨g, og, c', hv, hg, hgs, hcs⟩
         ·omega
         ·cases hv
          obtain ⟨hcl, hcc⟩ := hcs i hlt
          have hcell : ∀ (W : World), Fr [] w W → ∀ (j : Nat) (v : Value), (cp i ++ ce i)[j]? = some v → W.cell? ⟨g, og + i * 15 + j, none⟩ = some v := fun W hW j v hj => (hW.cell (p := ⟨g, og + i * 15 + j, none⟩) (by simp; omega) (fun x => by cases x)).trans (hcc j v hj)
          have hgw : g < wr.heap.size := Nat.lt_of_lt_of_le hgs (by have := F.size; omega)
          generalize hci : cp i = ci at *
          generalize hce : ce i = cj at *
          have hpw := hpx.keep (w' := wr) (ok' := fun b => b < wr.heap.size) (Sh.of_fr F (fun b hb _ => ⟨by have := F.size; omega, fun x => by cases x⟩))
          have HYX := Lib.hid hyx
          cases hpx with
          | @mk k3 a3 nm3 n3 s3 ls3 args3 v53 v63 c53 c63 h53 e53 h63 e63 =>
          cases hyx with
          | @mk k2 a2 nm2 n2 s2 ls2 args2 arms2 v52 v62 v72 c52 c62 cp2 ce2 h52 e52 h62 e62 h72 e72 e82 =>
          have hf : ∃ A m cc, v53 = .slice A m cc := by obtain ⟨_, _, hv⟩ := h53.form; exact ⟨_, _, _, hv⟩
          obtain ⟨A53, m53, cc53, rfl⟩ := hf
          have hf : ∃ A m cc, v63 = .slice A m cc := by obtain ⟨_, _, hv⟩ := h63.form; exact ⟨_, _, _, hv⟩
          obtain ⟨A63, m63, cc63, rfl⟩ := hf
          have hf : ∃ A m cc, v52 = .slice A m cc := by obtain ⟨_, _, hv⟩ := h52.form; exact ⟨_, _, _, hv⟩
          obtain ⟨A52, m52, cc52, rfl⟩ := hf
          have hf : ∃ A m cc, v62 = .slice A m cc := by obtain ⟨_, _, hv⟩ := h62.form; exact ⟨_, _, _, hv⟩
          obtain ⟨A62, m62, cc62, rfl⟩ := hf
          have hf : ∃ A m cc, v72 = .slice A m cc := by obtain ⟨_, _, hv⟩ := h72.form; exact ⟨_, _, _, hv⟩
          obtain ⟨A72, m72, cc72, rfl⟩ := hf
          clear h52 e52 h62 e62 h72 e72 e82 h53 e53 h63 e63
          have x0 : wr.cell? ⟨g, og + i * 15, none⟩ = some (.int .i64 k3) := hcell wr F 0 _ rfl
          have x1 : wr.cell? ⟨g, og + i * 15 + 1, none⟩ = some (.int .i64 a3) := hcell wr F 1 _ rfl
          have x2 : wr.cell? ⟨g, og + i * 15 + 2, none⟩ = some (.string ⟨nm3.toArray⟩) := hcell wr F 2 _ rfl
          have x3 : wr.cell? ⟨g, og + i * 15 + 3, none⟩ = some (.int .i64 n3) := hcell wr F 3 _ rfl
          have x4 : wr.cell? ⟨g, og + i * 15 + 4, none⟩ = some (.string ⟨s3.toArray⟩) := hcell wr F 4 _ rfl
          have x5 : wr.cell? ⟨g, og + i * 15 + 5, none⟩ = some (.slice A53 m53 cc53) := hcell wr F 5 _ rfl
          have x6 : wr.cell? ⟨g, og + i * 15 + 6, none⟩ = some (.slice A63 m63 cc63) := hcell wr F 6 _ rfl
          have hsz2 := szAs_get HY.out
          have cP := Lib.hid (ppa_all (szP (.mk k3 a3 nm3 n3 s3 ls3 args3) + 1) k3 a3 nm3 n3 s3 ls3 args3 (.slice A53 m53 cc53) (.slice A63 m63 cc63) (d + 1) (D + 1) (m - L.length) ((m : Int) - (L.length : Int)) wr (by omega) (by rw [HD.out]; simp) (by have := HB.out; omega) (by omega) (HBD4.out i _ _ HY.out) hpw)
          have HC := Lib.hid hcell
          clear hcell hci hce hcc hcs hcl hpw hg
          have q1 : (0 : Int) ≤ (i : Int) := by omega
          have q2 : (i : Int) < (arms.length : Int) := by omega
          have q3 : (L.length : Int) < (m : Int) := by omega
          go_wp2_with fail
          refine cP.out.mono ?_
          rintro e w3 ⟨v3, rfl, O3, f3⟩
          clear cP x0 x1 x2 x3 x4 x5 x6 l0 l1 l2 l3 l4 l5 l6 l7
          have O0 := HO.out.fr f3
          replace q := f3.keep q (fun x => by cases x)
          replace F := F.trans f3
          have hcl : ((partsP (.mk k3 a3 nm3 n3 s3 ls3 args3) (d + 1)).take (m - L.length)).length ≤ m - L.length := by rw [List.length_take]; omega
          have hcn : (partsP (.mk k3 a3 nm3 n3 s3 ls3 args3) (d + 1)).take (m - L.length) ≠ [] := by
           rw [partsP_mk]
           obtain ⟨m', hm'⟩ : ∃ m', m - L.length = m' + 1 := ⟨m - L.length - 1, by omega⟩
           rw [hm']; simp
          generalize (partsP (.mk k3 a3 nm3 n3 s3 ls3 args3) (d + 1)).take (m - L.length) = C at *
          rcases O3.form with ⟨_, h⟩ | ⟨g3, c3, rfl, _, hg3, hnews⟩
          ·exact absurd h hcn
          ·clear f3
           have hi := HI.out
           have hz0 := HZ0.out
           have hz1 := HZ1.out
           have hz2 := HZ2.out
           go_wp2_with (at_builtin; refine wpList_append_fp _ rfl _ _ 33 rfl 36 i0 _ 2 16 Tryz.underlying33 hi hz0 hz1 hz2 rfl (by decide) _ _ _ rfl O0.1 ⟨g3, 0, none⟩ C.length c3 (ptsC C) rfl (ptsC_len _) ?c4a (ptsC_one _) ?c4b ?c4c ?_)
           case c4a => exact hnews
           case c4b => unfold maxLen; omega
           case c4c => omega
           intro v4 z4 hown4 hgrow4 hfp4
           obtain ⟨O4, F4, K4⟩ := OwnPt.app O0 (by have := F.size; have := lt_of_heap q; omega) hown4 hgrow4 hfp4
           replace q := K4 T _ (by omega) q
           replace F := F4 w F (by omega)
           clear hown4 hgrow4 hfp4 F4 K4 hi hz0 hz1 hz2
           clear O0 O3 hnews HO
           have hLCn : L ++ C ≠ [] := fun h => hcn (List.append_eq_nil_iff.1 h).2
           have hLC : (L ++ C).length ≤ m := by rw [List.length_append]; omega
           clear hcn hcl hlm hroom q3
           have hlp2 : 1 ≤ (L ++ C).length := by rw [List.length_append]; omega
           generalize L ++ C = L2 at *
           rcases O4.form with ⟨_, h⟩ | ⟨g4, c4, rfl, _, hg4, _⟩
           ·exact absurd h hLCn
           ·have HO4 := Lib.hid O4
            clear O4 hLCn
            have hTw := lt_of_heap q
            obtain ⟨⟨l0, l1, l2, l3, l4, l5, l6, l7⟩, _⟩ := cells8 q
            have y0 : z4.cell? ⟨g, og + i * 15 + 7, none⟩ = some (.int .i64 k2) := HC.out z4 F 7 _ rfl
            have y1 : z4.cell? ⟨g, og + i * 15 + 8, none⟩ = some (.int .i64 a2) := HC.out z4 F 8 _ rfl
            have y2 : z4.cell? ⟨g, og + i * 15 + 9, none⟩ = some (.string ⟨nm2.toArray⟩) := HC.out z4 F 9 _ rfl
            have y3 : z4.cell? ⟨g, og + i * 15 + 10, none⟩ = some (.int .i64 n2) := HC.out z4 F 10 _ rfl
            have y4 : z4.cell? ⟨g, og + i * 15 + 11, none⟩ = some (.string ⟨s2.toArray⟩) := HC.out z4 F 11 _ rfl
            have y5 : z4.cell? ⟨g, og + i * 15 + 12, none⟩ = some (.slice A52 m52 cc52) := HC.out z4 F 12 _ rfl
            have y6 : z4.cell? ⟨g, og + i * 15 + 13, none⟩ = some (.slice A62 m62 cc62) := HC.out z4 F 13 _ rfl
            have y7 : z4.cell? ⟨g, og + i * 15 + 14, none⟩ = some (.slice A72 m72 cc72) := HC.out z4 F 14 _ rfl
            have cE := Lib.hid (IH.out k2 a2 nm2 n2 s2 ls2 args2 arms2 (.slice A52 m52 cc52) (.slice A62 m62 cc62) (.slice A72 m72 cc72) (d + 1) (D + 1) (m - L2.length) ((m : Int) - (L2.length : Int)) z4 (by have := HN.out; omega) (by rw [HD.out]; simp) (by have := HB.out; omega) (by omega) (HBD5.out i _ _ HY.out) (HYX.out.keep (Sh.of_fr F (fun b hb _ => ⟨by have := F.size; omega, fun x => by cases x⟩))))
            have hgw4 : g < z4.heap.size := Nat.lt_of_lt_of_le hgs (by have := F.size; omega)
            have q3 : (L2.length : Int) ≤ (m : Int) := by omega
            go_wp2_with fail
            refine cE.out.mono ?_
            rintro e w5 ⟨v5, rfl, O5, f5⟩
            clear cE l0 l1 l2 l3 l4 l5 l6 l7 y0 y1 y2 y3 y4 y5 y6 y7
            have O6 := HO4.out.fr f5
            replace q := f5.keep q (fun x => by cases x)
            replace F := F.trans f5
            have hcl : ((partsE (.mk k2 a2 nm2 n2 s2 ls2 args2 arms2) (d + 1)).take (m - L2.length)).length ≤ m - L2.length := by rw [List.length_take]; omega
            generalize (partsE (.mk k2 a2 nm2 n2 s2 ls2 args2 arms2) (d + 1)).take (m - L2.length) = C2 at *
            rcases O5.form with ⟨rfl, hC2⟩ | ⟨g5, c5, rfl, _, hg5, hnews⟩
            ·subst hC2
             have hi := HI.out
             go_wp2_with (at_builtin; refine wpList_append_own_none rfl _ _ 33 rfl 0 36 i0 2 Tryz.underlying33 hi _ _ _ rfl O6.1 rfl ?_)
             have HO6 : Hid (OwnPt (T + 1) (.slice (some ⟨g4, 0, none⟩) L2.length c4) ((((a, d) :: partsEs args (d + 1)) ++ partsAs (arms.take (i + 1)) (d + 1)).take m) w5) := Lib.hid (by rw [HS.out, List.append_nil]; exact O6)
             clear O6 O5 HS hi
             go_wp2_with fail
             go_roundw
             case rel => exact ⟨i + 1, by go_num, by omega, HO6, F, q⟩
             case measure => simp [intOf]; omega
            ·clear f5
             have hi := HI.out
             have hz0 := HZ0.out
             have hz1 := HZ1.out
             have hz2 := HZ2.out
             go_wp2_with (at_builtin; refine wpList_append_fp _ rfl _ _ 33 rfl 36 i0 _ 2 16 Tryz.underlying33 hi hz0 hz1 hz2 rfl (by decide) _ _ _ rfl O6.1 ⟨g5, 0, none⟩ C2.length c5 (ptsC C2) rfl (ptsC_len _) ?c6a (ptsC_one _) ?c6b ?c6c ?_)
             case c6a => exact hnews
             case c6b => unfold maxLen; omega
             case c6c => omega
             intro v6 z6 hown6 hgrow6 hfp6
             obtain ⟨O6, F6, K6⟩ := OwnPt.app O6 (by have := F.size; have := lt_of_heap q; omega) hown6 hgrow6 hfp6
             replace q := K6 T _ (by omega) q
             replace F := F6 w F (by omega)
             clear hown6 hgrow6 hfp6 F6 K6 hi hz0 hz1 hz2
             have HO6 : Hid (OwnPt (T + 1) v6 ((((a, d) :: partsEs args (d + 1)) ++ partsAs (arms.take (i + 1)) (d + 1)).take m) z6) := Lib.hid (by rw [HS.out]; exact O6)
             clear O6 O5 HS hnews
             go_wp2_with fail
             go_roundw
             case rel => exact ⟨i + 1, by go_num, by omega, HO6, F, q⟩
             case measure => simp [intOf]; omega
        ·have HR : Hid (OwnPt T (.slice (some ⟨g0, 0, none⟩) ((((a, d) :: partsEs args (d + 1)) ++ partsAs (arms.take i) (d + 1)).take m).length c0) (((a, d) :: (partsEs args (d + 1) ++ partsAs arms (d + 1))).take m) wr) := Lib.hid (by
          have e : (((a, d) :: partsEs args (d + 1)) ++ partsAs (arms.take i) (d + 1)).take m = ((a, d) :: (partsEs args (d + 1) ++ partsAs arms (d + 1))).take m := by
           by_cases h1 : i < arms.length
           ·have h2 := take_full (((a, d) :: partsEs args (d + 1)) ++ partsAs (arms.take i) (d + 1)) (partsAs (arms.drop i) (d + 1)) m (Nat.le_of_not_lt fun h => hlt ⟨h1, h⟩)
            rw [h2, List.append_assoc, ← partsAs_app, List.take_append_drop, List.cons_append]
           ·have e3 : arms.take i = arms := List.take_of_length_le (by omega)
            rw [e3, List.cons_append]
          rw [← e]
          exact HO.out.weak (by omega))
         have hrm : i < arms.length → ¬ ((((a, d) :: partsEs args (d + 1)) ++ partsAs (arms.take i) (d + 1)).take m).length < m := fun h1 h => hlt ⟨h1, h⟩
         clear HO hne hlt
         generalize ((((a, d) :: partsEs args (d + 1)) ++ partsAs (arms.take i) (d + 1)).take m).length = r at *
         by_cases h1 : i < arms.length
         ·have h2 : ¬ (r : Int) < (m : Int) := by have := hrm h1; omega
          have q2 : (i : Int) < (arms.length : Int) := by omega
          go_wp2_with fail
          go_ret
          exact ⟨_, rfl, HR.out, F⟩
         ·have q2 : ¬ (i : Int) < (arms.length : Int) := by omega
          go_wp2_with fail
          go_ret
          exact ⟨_, rfl, HR.out, F⟩
theorem pxa_all : ∀ N, PXA N
 | 0 => fun _ _ _ _ _ _ _ _ _ _ _ _ _ _ _ _ h => absurd h (Nat.not_lt_zero _)
 | N + 1 => pxa_step N (pxa_all N)
end Go.Proofs.YtpjkfeehgookkaaGreatDoor
namespace Go.Proofs.YtpjkfeehgookkaaGreatDoor
open Go.RowKit
section
variable (G : Int → Prop)
def AllP (x : PatT) : Prop := ∀ d, ∀ p ∈ partsP x d, G p.1
def AllPs (l : List PatT) : Prop := ∀ d, ∀ p ∈ partsPs l d, G p.1
def AllX (x : ExprT) : Prop := ∀ d, ∀ p ∈ partsE x d, G p.1
def AllXs (l : List ExprT) : Prop := ∀ d, ∀ p ∈ partsEs l d, G p.1
def AllAs (l : List (PatT × ExprT)) : Prop := ∀ d, ∀ p ∈ partsAs l d, G p.1
end
section
variable {G : Int → Prop}
theorem allP_mk {k a : Int} {nm : List UInt8} {n : Int} {s : List UInt8} {ls : List (List UInt8)} {args : List PatT} (ha : G a) (h : AllPs G args) : AllP G (.mk k a nm n s ls args) := fun d p hp => by
 rw [partsP_mk, List.mem_cons] at hp
 rcases hp with rfl | hp
 ·exact ha
 ·exact h _ p hp
theorem allX_mk {k a : Int} {nm : List UInt8} {n : Int} {s : List UInt8} {ls : List (List UInt8)} {args : List ExprT} {arms : List (PatT × ExprT)} (ha : G a) (h : AllXs G args) (h2 : AllAs G arms) : AllX G (.mk k a nm n s ls args arms) := fun d p hp => by
 rw [partsE_mk, List.mem_cons, List.mem_append] at hp
 rcases hp with rfl | hp | hp
 ·exact ha
 ·exact h _ p hp
 ·exact h2 _ p hp
theorem allX_at {x : ExprT} (h : AllX G x) : G x.at_ := by
 cases x with
 | mk k a nm n s ls args arms => exact h 0 (a, 0) (by rw [partsE_mk]; exact List.mem_cons_self ..)
theorem allPs_nil : AllPs G [] := fun d p hp => by simp [partsPs] at hp
theorem allXs_nil : AllXs G [] := fun d p hp => by simp [partsEs] at hp
theorem allAs_nil : AllAs G [] := fun d p hp => by simp [partsAs] at hp
theorem allPs_app {l : List PatT} {x : PatT} (h : AllPs G l) (hx : AllP G x) : AllPs G (l ++ [x]) := fun d p hp => by
 have e : ∀ (l m : List PatT), partsPs (l ++ m) d = partsPs l d ++ partsPs m d := fun l m => by
  induction l with
  | nil => simp [partsPs]
  | cons x l ih => simp [partsPs, ih]
 rw [e, List.mem_append] at hp
 rcases hp with hp | hp
 ·exact h d p hp
 ·exact hx d p (by simpa [partsPs] using hp)
theorem allXs_app {l : List ExprT} {x : ExprT} (h : AllXs G l) (hx : AllX G x) : AllXs G (l ++ [x]) := fun d p hp => by
 have e : ∀ (l m : List ExprT), partsEs (l ++ m) d = partsEs l d ++ partsEs m d := fun l m => by
  induction l with
  | nil => simp [partsEs]
  | cons x l ih => simp [partsEs, ih]
 rw [e, List.mem_append] at hp
 rcases hp with hp | hp
 ·exact h d p hp
 ·exact hx d p (by simpa [partsEs] using hp)
theorem allAs_app {l : List (PatT × ExprT)} {q : PatT} {x : ExprT} (h : AllAs G l) (hq : AllP G q) (hx : AllX G x) : AllAs G (l ++ [(q, x)]) := fun d p hp => by
 have e : ∀ (l m : List (PatT × ExprT)), partsAs (l ++ m) d = partsAs l d ++ partsAs m d := fun l m => by
  induction l with
  | nil => simp [partsAs]
  | cons x l ih => simp [partsAs, ih]
 rw [e, List.mem_append] at hp
 rcases hp with hp | hp
 ·exact h d p hp
 ·simp only [partsAs, partsA, List.append_nil, List.mem_append] at hp
  rcases hp with hp | hp
  ·exact hq d p hp
  ·exact hx d p hp
theorem allXs1 {x : ExprT} (h : AllX G x) : AllXs G [x] := allXs_app allXs_nil h
theorem allXs2 {x y : ExprT} (h : AllX G x) (h2 : AllX G y) : AllXs G [x, y] := allXs_app (allXs1 h) h2
theorem allXs3 {x y z : ExprT} (h : AllX G x) (h2 : AllX G y) (h3 : AllX G z) : AllXs G [x, y, z] := allXs_app (allXs2 h h2) h3
theorem allP0 {k a : Int} {nm : List UInt8} {n : Int} {s : List UInt8} {ls : List (List UInt8)} (ha : G a) : AllP G (.mk k a nm n s ls []) := allP_mk ha allPs_nil
theorem allX0 {k a : Int} {nm : List UInt8} {n : Int} {s : List UInt8} {ls : List (List UInt8)} (ha : G a) : AllX G (.mk k a nm n s ls [] []) := allX_mk ha allXs_nil allAs_nil
theorem allXn {k a : Int} {args : List ExprT} (ha : G a) (h : AllXs G args) : AllX G (nodeE k a args) := allX_mk ha h allAs_nil
theorem allXo {n a : Int} {args : List ExprT} (ha : G a) (h : AllXs G args) : AllX G (opE n a args) := allX_mk ha h allAs_nil
end
def PGood (G : Int → Prop) (kn : Option (Tok × Bool)) : PNT → Prop
 | .marked (.mk _ a _ _ _ _ args) => (G a ∨ ∃ t ok, kn = some (t, ok) ∧ t.at' = a) ∧ AllPs G args
 | .recL a _ args => G a ∧ AllPs G args
 | _ => True
def NGood (G : Int → Prop) : NT → Prop
 | .arms _ a => G a
 | .armsL _ a x acc => G a ∧ AllX G x ∧ AllAs G acc
 | .sumL a => AllX G a
 | .prodL a => AllX G a
 | .opL _ a _ acc => G a ∧ AllXs G acc
 | .appL a => AllX G a
 | .postL a => AllX G a
 | .braces a => G a
 | .recL a _ args => G a ∧ AllXs G args
 | _ => True
def Plc (G : Int → Prop) : Option (Tok × Bool) → Cmd → Prop
 | _, .retE x => AllX G x
 | kn, .retP x => (∀ t, kn ≠ some (t, false)) → AllP G x
 | kn, .look k => ∀ t ok, (t.k ≠ 0 → G t.at') → (∀ p, kn = some p → p = (t, ok)) → Plc G (some (t, ok)) (k t ok)
 | kn, .ahead k => ∀ n, Plc G kn (k n)
 | _, .adv k => Plc G none k
 | _, .fail _ => True
 | _, .callE nt k => NGood G nt ∧ ∀ x, AllX G x → Plc G none (k x)
 | kn, .callP nt k => PGood G kn nt ∧ ∀ x, AllP G x → Plc G none (k x)
section
variable {G : Int → Prop}
theorem plc_adv {c : Cmd} {kn : Option (Tok × Bool)} (h : Plc G none c) : Plc G kn (.adv c) := h
theorem plc_ite {p : Prop} [Decidable p] {c d : Cmd} {kn : Option (Tok × Bool)} (h1 : p → Plc G kn c) (h2 : ¬ p → Plc G kn d) : Plc G kn (if p then c else d) := by
 split
 ·exact h1 (by assumption)
 ·exact h2 (by assumption)
theorem plc_mayN {s : List UInt8} {k : Bool → Cmd} (h1 : ∀ t : Tok, G t.at' → Plc G none (k true)) (h2 : ∀ t ok, (t.k ≠ 0 → G t.at') → Plc G (some (t, ok)) (k false)) : Plc G none (mayC s k) := by
 intro t ok hg _
 show Plc G _ (if _ then _ else _)
 split
 ·rename_i hb; exact h1 t (hg (isB_ok' hb).2)
 ·exact h2 t ok hg
theorem plc_mayS {t : Tok} {ok : Bool} {s : List UInt8} {k : Bool → Cmd} (h1 : G t.at' → Plc G none (k true)) (h2 : Plc G (some (t, ok)) (k false)) : Plc G (some (t, ok)) (mayC s k) := by
 intro t' ok' hg he
 cases he _ rfl
 show Plc G _ (if _ then _ else _)
 split
 ·rename_i hb; exact h1 (hg (isB_ok' hb).2)
 ·exact h2
theorem plc_isS {t : Tok} {ok : Bool} {s : List (List UInt8)} {k : Bool → Cmd} (h1 : G t.at' → Plc G (some (t, ok)) (k true)) (h2 : Plc G (some (t, ok)) (k false)) : Plc G (some (t, ok)) (isC s k) := by
 intro t' ok' hg he
 cases he _ rfl
 show Plc G (some (t, ok)) (k (isB t ok s))
 cases hb : isB t ok s with
 | true => exact h1 (hg (isB_ok' hb).2)
 | false => exact h2
theorem plc_must {s : List UInt8} {k : Cmd} {kn : Option (Tok × Bool)} (h : Plc G none k) : Plc G kn (mustC s k) := by
 intro t ok _ _
 show Plc G _ (if _ then _ else _)
 split
 ·exact h
 ·trivial
theorem plc_name {k : List UInt8 → Cmd} {kn : Option (Tok × Bool)} (h : ∀ s, Plc G none (k s)) : Plc G kn (nameC k) := by
 intro t ok _ _
 show Plc G _ (if _ then _ else _)
 split
 ·exact h _
 ·trivial
theorem plc_retP {x : PatT} {kn : Option (Tok × Bool)} (h : AllP G x) : Plc G kn (.retP x) := fun _ => h
def Pend (G : Int → Prop) (a : Int) (kn : Option (Tok × Bool)) : Prop := G a ∨ ∃ t ok, kn = some (t, ok) ∧ t.at' = a
theorem plc_mayM {a : Int} {kn : Option (Tok × Bool)} (h : Pend G a kn) {s : List UInt8} {k : Bool → Cmd} (h1 : G a → Plc G none (k true)) (h2 : ∀ kn', Pend G a kn' → Plc G kn' (k false)) : Plc G kn (mayC s k) := by
 intro t ok hg he
 show Plc G _ (if _ then _ else _)
 split
 ·rename_i hb
  refine h1 ?_
  rcases h with h | ⟨t0, ok0, hk, ha⟩
  ·exact h
  ·cases he _ hk; rw [← ha]; exact hg (isB_ok' hb).2
 ·refine h2 _ ?_
  rcases h with h | ⟨t0, ok0, hk, ha⟩
  ·exact .inl h
  ·cases he _ hk; exact .inr ⟨_, _, rfl, ha⟩
theorem plcP (nt : PNT) (kn : Option (Tok × Bool)) (hn : PGood G kn nt) : Plc G kn (bodyP nt) := by
 cases nt with
 | pat =>
  intro t ok hg _
  refine plc_ite (fun h => ?_) (fun _ => ⟨trivial, fun x hx => plc_retP hx⟩)
  simp only [Bool.and_eq_true, beq_iff_eq] at h
  exact ⟨trivial, fun x hx => plc_retP (allP_mk (hg (by omega)) (allPs_app allPs_nil hx))⟩
 | patom =>
  intro t ok hg _
  refine plc_ite (fun h => fun h2 => absurd rfl (by rw [h] at h2; exact h2 t)) (fun hok => ?_)
  refine plc_ite (fun h => ?_) (fun _ => plc_ite (fun h => ?_) (fun _ => plc_ite (fun h => ?_) (fun _ => plc_ite (fun h => ?_) (fun _ => ⟨⟨.inr ⟨t, ok, rfl, rfl⟩, allPs_nil⟩, fun x hx => plc_retP hx⟩))))
  ·have := hg (by omega)
   show (∀ t, none ≠ some (t, false)) → AllP G (if _ then _ else _)
   intro _
   split <;> exact allP0 this
  ·exact plc_retP (allP0 (hg (by omega)))
  ·exact plc_retP (allP0 (hg (by omega)))
  ·exact plc_retP (allP0 (hg (by omega)))
 | marked x =>
  obtain ⟨k, a, nm, n, s, ls, args⟩ := x
  obtain ⟨ha, hl⟩ := hn
  have ha : Pend G a kn := ha
  unfold bodyP
  refine plc_mayM ha (fun ga => plc_ite (fun _ => ?_) (fun h => absurd rfl h)) (fun kn1 ha => plc_ite (fun h => by cases h) (fun _ => plc_mayM ha (fun ga => plc_ite (fun _ => plc_retP (allP_mk ga hl)) (fun h => absurd rfl h)) (fun kn2 ha => plc_ite (fun h => by cases h) (fun _ => plc_mayM ha (fun ga => plc_ite (fun _ => plc_retP (allP_mk ga hl)) (fun h => absurd rfl h)) (fun kn3 ha => plc_ite (fun h => by cases h) (fun _ => plc_mayM ha (fun ga => plc_ite (fun _ => ?_) (fun h => absurd rfl h)) (fun kn4 ha => plc_ite (fun h => by cases h) (fun _ => plc_mayM ha (fun ga => plc_ite (fun _ => ?_) (fun h => absurd rfl h)) (fun kn5 ha => plc_ite (fun h => by cases h) (fun _ => trivial))))))))))
  ·intro t ok _ _
   exact plc_ite (fun _ => plc_ite (fun _ => plc_retP (allP_mk ga hl)) (fun _ => plc_retP (allP_mk ga hl))) (fun _ => trivial)
  ·exact plc_mayN (fun _ _ => plc_ite (fun _ => plc_retP (allP_mk ga hl)) (fun h => absurd rfl h)) (fun _ _ _ => plc_ite (fun h => by cases h) (fun _ => ⟨trivial, fun x hx => plc_must (plc_retP hx)⟩))
  ·refine plc_mayN (fun _ _ => plc_ite (fun _ => plc_retP (allP_mk ga hl)) (fun h => absurd rfl h)) (fun _ _ _ => plc_ite (fun h => by cases h) (fun _ => ?_))
   intro t ok _ _
   exact plc_ite (fun _ => ⟨⟨ga, hl⟩, fun x hx => plc_retP hx⟩) (fun _ => plc_must (plc_retP (allP_mk ga hl)))
 | recL a ls args =>
  obtain ⟨ha, hl⟩ := hn
  unfold bodyP
  exact plc_name fun s => plc_must ⟨trivial, fun p hp => plc_mayN (fun _ _ => plc_ite (fun _ => ⟨⟨ha, allPs_app hl hp⟩, fun x hx => plc_retP hx⟩) (fun h => absurd rfl h)) (fun _ _ _ => plc_ite (fun h => by cases h) (fun _ => plc_must (plc_retP (allP_mk ha (allPs_app hl hp)))))⟩
theorem plcE (nt : NT) (kn : Option (Tok × Bool)) (hn : NGood G nt) : Plc G kn (body nt) := by
 cases nt with
 | seq => exact ⟨trivial, fun x hx t ok hg _ => plc_mayS (fun ga => plc_ite (fun _ => ⟨trivial, fun y hy => allXn ga (allXs2 hx hy)⟩) (fun h => absurd rfl h)) (plc_ite (fun h => by cases h) (fun _ => hx))⟩
 | item =>
  intro t ok hg _
  refine plc_mayS (fun ga => plc_ite (fun _ => ?_) (fun h => absurd rfl h)) (plc_ite (fun h => by cases h) (fun _ => plc_isS (fun ga => plc_ite (fun _ => ⟨trivial, fun x hx => hx⟩) (fun h => absurd rfl h)) (plc_ite (fun h => by cases h) (fun _ => plc_mayS (fun ga => plc_ite (fun _ => ⟨ga, fun x hx => hx⟩) (fun h => absurd rfl h)) (plc_ite (fun h => by cases h) (fun _ => plc_mayS (fun ga => plc_ite (fun _ => ⟨ga, fun x hx => hx⟩) (fun h => absurd rfl h)) (plc_ite (fun h => by cases h) (fun _ => plc_mayS (fun ga => plc_ite (fun _ => ?_) (fun h => absurd rfl h)) (plc_ite (fun h => by cases h) (fun _ => plc_mayS (fun ga => plc_ite (fun _ => ⟨trivial, fun x hx => allXn ga (allXs1 hx)⟩) (fun h => absurd rfl h)) (plc_ite (fun h => by cases h) (fun _ => ?_))))))))))))
  ·have key : ∀ (r : Bool) (kn : Option (Tok × Bool)), Plc G kn (nameC fun nm => mustC [61] (.callE (if r = true then .fn else .seq) fun x => mustC [105, 110] (.callE .seq fun y => .retE (.mk (if r = true then 10 else 9) t.at' nm 0 [] [] [x, y] [])))) := fun r kn =>
    plc_name fun s => plc_must ⟨by cases r <;> trivial, fun x hx => plc_must ⟨trivial, fun y hy => allX_mk ga (allXs2 hx hy) allAs_nil⟩⟩
   exact plc_mayN (fun _ _ => key true _) (fun _ _ _ => key false _)
  ·exact ⟨trivial, fun x hx => plc_must ⟨trivial, fun y hy => plc_must ⟨trivial, fun z hz => allXn ga (allXs3 hx hy hz)⟩⟩⟩
  ·exact ⟨trivial, fun x hx t ok hg _ => plc_mayS (fun ga => plc_ite (fun _ => ⟨trivial, fun y hy => allXo ga (allXs2 hx hy)⟩) (fun h => absurd rfl h)) (plc_ite (fun h => by cases h) (fun _ => hx))⟩
 | fn =>
  intro t ok hg _
  intro t' ok' hg' he
  cases he _ rfl
  show Plc G _ (if _ then _ else _)
  split
  ·rename_i hb
   have ga := hg (isB_ok' hb).2
   refine plc_adv (plc_name fun s => plc_must ?_)
   exact ⟨trivial, fun x hx => allX_mk ga (allXs1 hx) allAs_nil⟩
  ·trivial
 | arms k a => exact ⟨trivial, fun x hx => plc_must fun t ok _ _ => plc_ite (fun _ => ⟨⟨hn, hx, allAs_nil⟩, fun y hy => hy⟩) (fun _ => plc_must (allX_mk hn (allXs1 hx) allAs_nil))⟩
 | armsL k a x acc =>
  obtain ⟨ha, hx, hc⟩ := hn
  exact ⟨trivial, fun p hp => plc_must ⟨trivial, fun y hy => plc_mayN (fun _ _ => plc_ite (fun _ => ⟨⟨ha, hx, allAs_app hc hp hy⟩, fun z hz => hz⟩) (fun h => absurd rfl h)) (fun _ _ _ => plc_ite (fun h => by cases h) (fun _ => plc_must (allX_mk ha (allXs1 hx) (allAs_app hc hp hy))))⟩⟩
 | or => exact ⟨trivial, fun x hx t ok hg _ => plc_mayS (fun ga => plc_ite (fun _ => ⟨trivial, fun y hy => allXn ga (allXs2 hx hy)⟩) (fun h => absurd rfl h)) (plc_ite (fun h => by cases h) (fun _ => hx))⟩
 | and => exact ⟨trivial, fun x hx t ok hg _ => plc_mayS (fun ga => plc_ite (fun _ => ⟨trivial, fun y hy => allXn ga (allXs2 hx hy)⟩) (fun h => absurd rfl h)) (plc_ite (fun h => by cases h) (fun _ => hx))⟩
 | cmp => exact ⟨trivial, fun x hx t ok hg _ => plc_ite (fun h => ⟨trivial, fun y hy => allXo (hg (isB_ok' h).2) (allXs2 hx hy)⟩) (fun _ => hx)⟩
 | sum => exact ⟨trivial, fun x hx => ⟨hx, fun y hy => hy⟩⟩
 | sumL a => exact fun t ok hg _ => plc_ite (fun h => ⟨trivial, fun y hy => ⟨allXo (hg (isB_ok' h).2) (allXs2 hn hy), fun z hz => hz⟩⟩) (fun _ => hn)
 | prod => exact ⟨trivial, fun x hx => ⟨hx, fun y hy => hy⟩⟩
 | prodL a => exact fun t ok hg _ => plc_ite (fun h => ⟨trivial, fun y hy => ⟨allXo (hg (isB_ok' h).2) (allXs2 hn hy), fun z hz => hz⟩⟩) (fun _ => hn)
 | unary => exact fun t ok hg _ => plc_mayS (fun ga => plc_ite (fun _ => ⟨trivial, fun x hx => allXo ga (allXs1 hx)⟩) (fun h => absurd rfl h)) (plc_ite (fun h => by cases h) (fun _ => plc_mayS (fun ga => plc_ite (fun _ => ⟨trivial, fun x hx => allXo ga (allXs1 hx)⟩) (fun h => absurd rfl h)) (plc_ite (fun h => by cases h) (fun _ => ⟨trivial, fun x hx => hx⟩))))
 | app =>
  intro t ok hg _
  refine plc_ite (fun h => ?_) (fun _ => plc_ite (fun h => ?_) (fun _ => ⟨trivial, fun x hx => ⟨hx, fun y hy => hy⟩⟩))
  ·simp only [Bool.and_eq_true, beq_iff_eq] at h
   exact ⟨trivial, fun x hx => allX_mk (hg (by omega)) (allXs1 hx) allAs_nil⟩
  ·simp only [Bool.and_eq_true, beq_iff_eq] at h
   exact ⟨⟨hg (by omega), allXs_nil⟩, fun x hx => hx⟩
 | opL n a m acc =>
  obtain ⟨ha, hc⟩ := hn
  cases m with
  | zero => exact allXo ha hc
  | succ m => exact ⟨trivial, fun x hx => ⟨⟨ha, allXs_app hc hx⟩, fun y hy => hy⟩⟩
 | appL a => exact fun t ok hg _ => plc_ite (fun _ => ⟨trivial, fun x hx => ⟨allXn (allX_at hn) (allXs2 hn hx), fun y hy => hy⟩⟩) (fun _ => hn)
 | post => exact fun t ok hg _ => plc_mayS (fun ga => plc_ite (fun _ => ⟨trivial, fun x hx => allXo ga (allXs1 hx)⟩) (fun h => absurd rfl h)) (plc_ite (fun h => by cases h) (fun _ => ⟨trivial, fun x hx => ⟨hx, fun y hy => hy⟩⟩))
 | postL a =>
  refine fun t ok hg _ => plc_ite (fun h => ?_) (fun _ => hn)
  have ga := hg (isB_ok' h).2
  refine plc_adv (plc_name fun s => ?_)
  exact ⟨allX_mk ga (allXs1 hn) allAs_nil, fun y hy => hy⟩
 | atom =>
  intro t ok hg _
  refine plc_ite (fun h => ?_) (fun _ => trivial)
  simp only [Bool.and_eq_true] at h
  have ga := hg (begins_ok' h.1).2
  show Plc G none (if _ then _ else _)
  repeat refine plc_ite (fun _ => (by first | exact allX0 ga | exact ⟨ga, fun x hx => hx⟩)) (fun _ => ?_)
  exact plc_mayN (fun _ _ => plc_ite (fun _ => allX0 ga) (fun h => absurd rfl h)) (fun _ _ _ => plc_ite (fun h => by cases h) (fun _ => ⟨trivial, fun x hx => plc_must hx⟩))
 | braces a =>
  have ha : G a := hn
  unfold body
  have k2 : ∀ kn', Plc G kn' (.ahead fun n => .look fun t ok => if (t.k == 1 && (n.k == 7 && n.text == [61])) = true then (if ok = true then .callE (.recL a [] []) .retE else mustC [125] (.retE (.mk 12 a [] 0 [] [] [] []))) else
   .callE .seq fun x => mustC [119, 105, 116, 104] (nameC fun nm => mustC [61] (.callE .seq fun y => mustC [125] (.retE (.mk 13 a nm 0 [] [] [x, y] []))))) := fun kn' n t ok _ _ =>
   plc_ite (fun _ => plc_ite (fun _ => ⟨⟨ha, allXs_nil⟩, fun x hx => hx⟩) (fun _ => plc_must (allX0 ha))) (fun _ => ⟨trivial, fun x hx => plc_must (plc_name fun s => plc_must ⟨trivial, fun y hy => plc_must (allX_mk ha (allXs2 hx hy) allAs_nil)⟩)⟩)
  exact plc_mayM (.inl ha) (fun _ => plc_ite (fun _ => allX0 ha) (fun h => absurd rfl h)) (fun kn' _ => plc_ite (fun h => by cases h) (fun _ => k2 kn'))
 | recL a ls args =>
  obtain ⟨ha, hl⟩ := hn
  unfold body
  exact plc_name fun s => plc_must ⟨trivial, fun x hx => plc_mayN (fun _ _ => plc_ite (fun _ => ⟨⟨ha, allXs_app hl hx⟩, fun y hy => hy⟩) (fun h => absurd rfl h)) (fun _ _ _ => plc_ite (fun h => by cases h) (fun _ => plc_must (allX_mk ha (allXs_app hl hx) allAs_nil)))⟩
end
def AllR (G : Int → Prop) : Rs → Prop
 | .e x => AllX G x
 | .p x => AllP G x
theorem Run.plc {ts : List Tok} {G : Int → Prop} (hG : ∀ (j : Nat) (t : Tok), ts[j]? = some t → t.k ≠ 0 → G t.at') {c : Cmd} {st : St} {r : Rs} {st' : St} (h : Run ts c st r st') : ∀ {kn : Option (Tok × Bool)}, Plc G kn c → Kn ts st kn → st'.ok = true → AllR G r := by
 induction h with
 | retE => intro kn hc _ _; exact hc
 | @retP x st => intro kn hc hk hok; exact hc (fun t ht => by have := (hk _ ht).2; rw [hok] at this; cases this)
 | look h hk ih => intro kn hc hkn hok; exact ih (hc _ _ (fun hz => hG _ _ h hz) (hkn.to h)) (Kn.see h) hok
 | ahead h hk ih => intro kn hc hkn hok; exact ih (hc _) hkn hok
 | adv hk ih => intro kn hc hkn hok; exact ih hc (Kn.none_ _ _) hok
 | fail hk ih => intro kn hc hkn hok; have := hk.grows.2 hok; cases this
 | @callE nt k st x st1 r st' h hk ih1 ih2 =>
  intro kn hc hkn hok
  have hx : AllX G x := ih1 (plcE nt kn hc.1) hkn (hk.grows.2 hok)
  exact ih2 (hc.2 x hx) (Kn.none_ _ _) hok
 | @callP nt k st x st1 r st' h hk ih1 ih2 =>
  intro kn hc hkn hok
  have hx : AllP G x := ih1 (plcP nt kn hc.1) hkn (hk.grows.2 hok)
  exact ih2 (hc.2 x hx) (Kn.none_ _ _) hok
end Go.Proofs.YtpjkfeehgookkaaGreatDoor
namespace Go.Proofs.YtpjkfeehgookkaaGreatDoor
open Go.RowKit
attribute [local go_sem ↓] Go.wp_at_zero Go.wp_at_succ
theorem ptsC_at : ∀ (l : List (Int × Nat)) (i : Nat) (q : Int × Nat), l[i]? = some q → (ptsC l)[i * 2]? = some (.int .i64 q.1) ∧ (ptsC l)[i * 2 + 1]? = some (.int .i64 (q.2 : Int))
 | [], i, q, h => by simp at h
 | p :: l, 0, q, h => by
  simp at h; subst h
  exact ⟨rfl, rfl⟩
 | p :: l, i + 1, q, h => by
  have h' : l[i]? = some q := by simpa using h
  obtain ⟨h1, h2⟩ := ptsC_at l i q h'
  rw [show ptsC (p :: l) = ptC p ++ ptsC l from rfl, show (i + 1) * 2 = i * 2 + 2 by omega, show i * 2 + 2 + 1 = i * 2 + 1 + 2 by omega]
  exact ⟨h1, h2⟩
theorem OwnPt.at_ {B g n c : Nat} {l : List (Int × Nat)} {w : World} (h : OwnPt B (.slice (some ⟨g, 0, none⟩) n c) l w) {i : Nat} {q : Int × Nat} (hi : l[i]? = some q) : w.cell? ⟨g, i * 2, none⟩ = some (.int .i64 q.1) ∧ w.cell? ⟨g, i * 2 + 1, none⟩ = some (.int .i64 (q.2 : Int)) := by
 obtain ⟨h1, h2⟩ := ptsC_at l i q hi
 have k1 := h.1.cells (g := g) rfl _ _ h1
 have k2 := h.1.cells (g := g) rfl _ _ h2
 have e : ∀ j, (⟨g, 0, none⟩ : Addr).add j = ⟨g, j, none⟩ := fun j => by
  unfold Addr.add
  split
  ·rename_i h; rw [h]
  ·simp
 rw [e] at k1 k2
 exact ⟨k1, k2⟩
def PlOk (ts : List Tok) (x : ExprT) : Prop := szE x ≤ 3 * ts.length ∧ ∀ (i : Nat) (q : Int × Nat), (partsE x 1)[i]? = some q → (∃ (k : Nat) (t : Tok), ts[k]? = some t ∧ t.k ≠ 0 ∧ (t.at' : Int) = q.1) ∧ (q.2 : Int) ≤ 200
theorem places_pr {s : List UInt8} {ts : List Tok} {x : ExprT} {p : Int} (hl : lexOf s = .ok ts) (h : PR s x 0 p) : PlOk ts x := by
 cases h with
 | lexErr h => rw [hl] at h; cases h
 | @ok ts' _ st' t hl' hr ht hok hend hm hd =>
  rw [hl] at hl'; cases hl'
  have h1 : szE x + 1 ≤ 0 + 2 * (st'.i - 0) := hr.cost (b := 0) (wtE .seq) hok
  have h2 := (List.getElem?_eq_some_iff.1 ht).1
  refine ⟨by omega, fun i q hq => ⟨?_, ?_⟩⟩
  ·have hall : AllX (fun a => ∃ (k : Nat) (t : Tok), ts[k]? = some t ∧ t.k ≠ 0 ∧ (t.at' : Int) = a) x := hr.plc (G := fun a => ∃ (k : Nat) (t : Tok), ts[k]? = some t ∧ t.k ≠ 0 ∧ (t.at' : Int) = a) (fun j t hj hk => ⟨j, t, hj, hk, rfl⟩) (plcE .seq none trivial) (Kn.none_ _ _) hok
   exact hall 1 q (List.mem_of_getElem? hq)
  ·have := List.find?_eq_none.1 hd q (List.mem_of_getElem? hq)
   simpa using this
theorem PR.zero_of {s : List UInt8} {x : ExprT} {er p : Int} (h : PR s x er p) (he : er ≠ 0) : x = .zero := by
 cases h with
 | lexErr => rfl
 | syn => rfl
 | many => rfl
 | deep => rfl
 | ok => exact absurd rfl he
set_option maxHeartbeats 8000000 in
set_option maxRecDepth 100000 in
theorem ParsePlaces_walk (a : ByteArray) (ha : a.size ≤ 140737488355328) (w : World) (hE : EnvL w) :
  Calls Tryz.prog 8 #[.string a] w fun e w' => e = .returned (.bool true) ∧ Fr [] w w' := by
 have HE := Lib.hid hE
 have cA := fun w hE => Lib.hid (awake6_any w hE)
 have c1 := fun w hE => Lib.hid (Parse_any a (by omega) w hE)
 have cL := fun w hE => Lib.hid (Lex_f a (by omega) w hE)
 clear hE
 go_enter Tryz.func8, Tryz.ntmps8
 go_wp2_with fail
 refine (cA _ HE.out).out.mono ?_; rintro e w1 ⟨rfl, F⟩
 go_wp2_with fail
 refine (c1 _ (HE.out.fr F)).out.mono ?_
 rintro e x1 ⟨k1, a1, nm1, n1, s1, ls1, args1, arms1, A51, n51, c51, A61, n61, c61, A71, n71, c71, er1, at1, rfl, hx1, hpr1, fx1⟩
 have HPR1 := Lib.hid hpr1
 clear hpr1
 replace F := F.trans fx1
 clear fx1
 go_wp2_with fail
 have q1 := heap_new x1 (.cells #[.int .i64 k1, .int .i64 a1, .string ⟨nm1.toArray⟩, .int .i64 n1, .string ⟨s1.toArray⟩, .slice A51 n51 c51, .slice A61 n61 c61, .slice A71 n71 c71] 27)
 have fb1 := (Fr.refl [] x1).alloc (.cells #[.int .i64 k1, .int .i64 a1, .string ⟨nm1.toArray⟩, .int .i64 n1, .string ⟨s1.toArray⟩, .slice A51 n51 c51, .slice A61 n61 c61, .slice A71 n71 c71] 27)
 have HX1 := Lib.hid (hx1.fr0 fb1)
 replace F := F.trans fb1
 clear fb1 hx1
 generalize x1.alloc (.cells #[.int .i64 k1, .int .i64 a1, .string ⟨nm1.toArray⟩, .int .i64 n1, .string ⟨s1.toArray⟩, .slice A51 n51 c51, .slice A61 n61 c61, .slice A71 n71 c71] 27) = y1 at *
 generalize x1.heap.size = T1 at *
 refine (cL _ (HE.out.fr F)).out.mono ?_
 rintro e w5 ⟨hlx, f5⟩
 replace HX1 := Lib.hid (HX1.out.fr f5)
 replace q1 := f5.keep q1 (fun x => by cases x)
 replace F := F.trans f5
 clear f5
 have hT1 := lt_of_heap q1
 obtain ⟨⟨l10, l11, l12, l13, l14, l15, l16, l17⟩, _⟩ := cells8 q1
 by_cases h1 : er1 = 0
 ·subst h1
  cases hl : lexOf a.data.toList with
  | error x =>
   exfalso
   have := HPR1.out
   cases this with
   | lexErr h => rw [hl] at h; cases h; rcases lexOf_err hl with ⟨_, h, _⟩ | ⟨_, _, h, _⟩ <;> omega
   | ok h => rw [hl] at h; cases h
  | ok ts =>
   rw [hl] at hlx
   obtain ⟨g, c, rfl, hg, hRT⟩ := hlx
   have HP := Lib.hid (places_pr hl HPR1.out)
   have hsz := HPR1.out.sz
   have hts : ts.length ≤ 4097 := (endOk_of hl).1
   have HRT := Lib.hid hRT
   clear hl hRT
   have cP := Lib.hid (pxa_all _ k1 a1 nm1 n1 s1 ls1 args1 arms1 (.slice A51 n51 c51) (.slice A61 n61 c61) (.slice A71 n71 c71) 1 1 8192 8192 w5 (Nat.lt_succ_self _) rfl (by omega) rfl (BdE.of_sz _ _ (Nat.lt_succ_self _) (by omega)) HX1.out)
   have etk : (partsE (.mk k1 a1 nm1 n1 s1 ls1 args1 arms1) 1).take 8192 = partsE (.mk k1 a1 nm1 n1 s1 ls1 args1 arms1) 1 := List.take_of_length_le (by rw [partsE_len]; omega)
   rw [etk] at cP
   clear etk
   go_wp2_with fail
   refine cP.out.mono ?_
   rintro e w6 ⟨v6, rfl, O6, f6⟩
   clear cP l10 l11 l12 l13 l14 l15 l16 l17
   replace HX1 := Lib.hid (HX1.out.fr f6)
   replace q1 := f6.keep q1 (fun x => by cases x)
   replace F := F.trans f6
   replace HRT := Lib.hid (HRT.out.fr f6 hg)
   have hg6 := Nat.lt_of_lt_of_le hg f6.size
   clear f6 hg hT1
   have hT1 := lt_of_heap q1
   obtain ⟨⟨l10, l11, l12, l13, l14, l15, l16, l17⟩, _⟩ := cells8 q1
   have hne : partsE (.mk k1 a1 nm1 n1 s1 ls1 args1 arms1) 1 ≠ [] := by rw [partsE_mk]; simp
   have hln : (partsE (.mk k1 a1 nm1 n1 s1 ls1 args1 arms1) 1).length = szE (.mk k1 a1 nm1 n1 s1 ls1 args1 arms1) := partsE_len _ _
   rcases O6.form with ⟨_, h⟩ | ⟨g2, c2, rfl, _, hg2, _⟩
   ·exact absurd h hne
   ·have cC := Lib.hid (Count_any k1 a1 nm1 n1 s1 ls1 args1 arms1 A51 n51 c51 A61 n61 c61 A71 n71 c71 8192 (by omega) (by omega) w6 HX1.out (by omega))
    have emin : min ((szE (.mk k1 a1 nm1 n1 s1 ls1 args1 arms1) : Nat) : Int) (8192 + 1) = (szE (.mk k1 a1 nm1 n1 s1 ls1 args1 arms1) : Int) := by omega
    rw [emin] at cC
    have h3 := HP.out.1
    have HO := Lib.hid O6
    have HLN := Lib.hid hln
    clear emin O6 hne
    rw [hln] at HO ⊢
    clear hln
    generalize szE (.mk k1 a1 nm1 n1 s1 ls1 args1 arms1) = N at *
    have hd1 : ¬ (3 * (ts.length : Int)) < (N : Int) := by omega
    have hdn : ((N : Int) != (N : Int)) = false := by simp
    go_wp2_with fail
    refine cC.out.mono ?_
    rintro e w7 ⟨rfl, f7⟩
    clear cC l10 l11 l12 l13 l14 l15 l16 l17 hd1
    replace F := F.trans f7
    replace HRT := Lib.hid (HRT.out.fr f7 hg6)
    replace HO := Lib.hid (HO.out.fr f7)
    have hg7 := Nat.lt_of_lt_of_le hg6 f7.size
    have hg27 := Nat.lt_of_lt_of_le hg2 f7.size
    clear f7 hg6 hg2 q1 hT1
    go_wp2_with fail
    clear hdn
    go_loopw [55] (fun iv wr => ∃ i : Nat, iv = .int .i64 i ∧ i ≤ N ∧ ∃ nd, wr = w7.drewN nd) (fun iv _ => N - (intOf iv).toNat)
    case atStart => exact ⟨0, rfl, by omega, 0, rfl⟩
    case round =>
     obtain ⟨i, rfl, hi, nd, rfl⟩ := hrel
     by_cases hlt : i < N
     ·obtain ⟨⟨pa, pd⟩, hq⟩ : ∃ q, (partsE (.mk k1 a1 nm1 n1 s1 ls1 args1 arms1) 1)[i]? = some q := ⟨_, List.getElem?_eq_getElem (by rw [HLN.out]; exact hlt)⟩
      obtain ⟨p0, p1⟩ := HO.out.at_ hq
      obtain ⟨hex, hdp⟩ := HP.out.2 i _ hq
      have HX := Lib.hid hex
      clear hex hq
      simp only at p0 p1 hdp
      go_wp2_with fail
      go_loopw [11, 60] (fun fv kv wr => ∃ (k : Nat) (b : Bool), fv = .bool b ∧ kv = .int .i64 k ∧ k ≤ ts.length ∧ Hid ((∃ (j : Nat) (t : Tok), j < k ∧ ts[j]? = some t ∧ t.k ≠ 0 ∧ (t.at' : Int) = pa) → b = true) ∧ ∃ nd, wr = w7.drewN nd) (fun _ kv _ => ts.length - (intOf kv).toNat)
      case atStart => exact ⟨0, false, rfl, rfl, by omega, Lib.hid (fun ⟨j, t, h, _⟩ => absurd h (Nat.not_lt_zero _)), nd, rfl⟩
      case round =>
       obtain ⟨k, b, rfl, rfl, hk, HB, nd, rfl⟩ := hrel
       by_cases hkt : k < ts.length
       ·have ht : ts[k]? = some ts[k] := List.getElem?_eq_getElem hkt
        have a0 := HRT.out.c0 k _ ht
        have a1 := HRT.out.c1 k _ ht
        have HB2 : ∀ b2 : Bool, (b = true → b2 = true) → (ts[k].k ≠ 0 → (ts[k].at' : Int) = pa → b2 = true) → Hid ((∃ (j : Nat) (t : Tok), j < k + 1 ∧ ts[j]? = some t ∧ t.k ≠ 0 ∧ (t.at' : Int) = pa) → b2 = true) := fun b2 h1 h2 => Lib.hid (by
         rintro ⟨j, t, hj, hjt, hk0, hat⟩
         by_cases e : j = k
         ·subst e
          rw [ht] at hjt
          cases hjt
          exact h2 hk0 hat
         ·exact h1 (HB.out ⟨j, t, by omega, hjt, hk0, hat⟩))
        clear ht HB
        generalize ts[k] = t at *
        obtain ⟨tk, ta, tt, tn⟩ := t
        simp only at a0 a1 HB2
        have HB3 := Lib.hid HB2
        clear HB2
        cases b with
        | true =>
         go_wp2_with fail
         go_quiet (fail)
         go_wp2_with fail
         go_roundw
         case rel => exact ⟨k + 1, true, by simp, by go_num, by omega, Lib.hid (fun _ => rfl), _, rfl⟩
         case measure => simp [intOf]; omega
        | false =>
         by_cases e1 : (ta : Int) = pa
         ·have d1 : ((ta : Int) == pa) = true := beq_iff_eq.2 e1
          by_cases e2 : tk = 0
          ·have d2 : (tk != 0) = false := by rw [e2]; rfl
           have HB4 := HB3.out false (fun h => h) (fun h => absurd e2 h)
           clear e1 e2 HB3
           go_wp2_with fail
           go_quiet (fail)
           go_wp2_with fail
           go_roundw
           case rel => exact ⟨k + 1, false, by simp, by go_num, by omega, HB4, _, rfl⟩
           case measure => simp [intOf]; omega
          ·have d2 : (tk != 0) = true := bne_iff_ne.2 e2
           clear e1 e2 HB3
           go_wp2_with fail
           go_quiet (fail)
           go_wp2_with fail
           go_roundw
           case rel => exact ⟨k + 1, true, by simp, by go_num, by omega, Lib.hid (fun _ => rfl), _, rfl⟩
           case measure => simp [intOf]; omega
         ·have d1 : ((ta : Int) == pa) = false := beq_eq_false_iff_ne.2 e1
          have HB4 := HB3.out false (fun h => h) (fun _ h => absurd h e1)
          clear e1 HB3
          go_wp2_with fail
          go_quiet (fail)
          go_wp2_with fail
          go_roundw
          case rel => exact ⟨k + 1, false, by simp, by go_num, by omega, HB4, _, rfl⟩
          case measure => simp [intOf]; omega
       ·have hb : b = true := by
         obtain ⟨j, t, hj, hk0, hat⟩ := HX.out
         exact HB.out ⟨j, t, by have := (List.getElem?_eq_some_iff.1 hj).1; omega, hj, hk0, hat⟩
        subst hb
        have hd2 : ¬ (200 : Int) < (pd : Int) := by omega
        go_wp2_with fail
        go_roundw
        case rel => exact ⟨i + 1, by go_num, by omega, _, rfl⟩
        case measure => simp [intOf]; omega
     ·go_wp2_with fail
      go_ret
      exact ⟨rfl, F.drewN _⟩
 ·have hz := HPR1.out.zero_of h1
  unfold ExprT.zero at hz
  cases hz
  obtain ⟨rfl, rfl, rfl⟩ := HX1.out.lens
  have h1b : (er1 != 0) = true := bne_iff_ne.2 h1
  clear h1
  cases hl : lexOf a.data.toList with
  | error x =>
   rw [hl] at hlx
   have hlx : e = _ := hlx
   subst hlx
   clear hl
   go_wp2_with fail
   go_ret
   exact ⟨rfl, F⟩
  | ok ts =>
   rw [hl] at hlx
   obtain ⟨g, c, rfl, hg, hRT⟩ := hlx
   clear hl
   go_wp2_with fail
   go_ret
   exact ⟨rfl, F⟩
end Go.Proofs.YtpjkfeehgookkaaGreatDoor
namespace Go.Proofs.YtpjkfeehgookkaaGreatDoor
open Go.ChangeShapes Go.WideShapes Go.ChangeAt Go.ChangeMaps Go.RowKit
section
theorem parsePlaces_reads (os : Os) {H : Type} (enc : TypeId × Value → H) : ∃ places, DataW.whole enc Tryz.prog ((doorW os).forCall (fun _ _ => 0) ⟨#[], #[.string ⟨#[]⟩], []⟩).memory Tryz.f8.params.toList Rows.parsePlacesSpec.vars false (#[.string ⟨#[]⟩] : Array Value).toList 8 = some ([.lit (.string [])], [], places) :=
 ⟨[], by kernel_rfl⟩
set_option maxRecDepth 100000 in
theorem parsePlaces_contract (H : Type) (enc : TypeId × Value → H) (W : World) (base : Nat) (args : Array Value) (ds gs : List (DataW H)) (before : List MemPlace)
  (hval : ∀ (j : Nat) t v, Tryz.f8.params[j]? = some t → args[j]? = some v → Value.okWide Tryz.prog W .any base t v)
  (hW : DataW.Whole enc Tryz.prog Tryz.f8.params.toList Rows.parsePlacesSpec.vars false W args.toList ds gs before) (hsz : (DataW.weightsEach Tryz.prog (Tryz.f8.params.toList ++ Rows.parsePlacesSpec.plain.varTypes Tryz.prog) (ds ++ gs)).all (· ≤ reachBytes) = true) (hL : laidMetH Tryz.prog Rows.parsePlacesRow.laid W) (hS : W.ShapedOpen Tryz.prog) :
  Calls Tryz.prog 8 args W fun e W' => ∃ v, e = .returned v ∧ Rows.parsePlacesSpec.post enc Tryz.prog Tryz.f8 false true false false W args v W' := by
 have hE := env_of hL hS
 have hW' := hW
 obtain ⟨p, q, hA0, hV, rfl, hfz, hnd⟩ := hW
 have hA : DataW.TrodAll enc Tryz.prog W 0 (fun _ => true) true Tryz.f8.params.toList args.toList ds p := hA0
 rw [Tryz.params8] at hA hval hsz
 obtain ⟨v0, vs0, d0, ds0, p0, q0, hargs, rfl, rfl, t0, r0⟩ := trodAll_cons hA
 obtain ⟨rfl, rfl, rfl⟩ := trodAll_nil r0
 obtain rfl : args = #[v0] := by cases args; simp_all
 obtain ⟨rfl, rfl⟩ := trodVars_none hV
 obtain ⟨a, rfl, rfl, rfl, ha⟩ := open_string Tryz.underlying9 (hval 0 9 v0 rfl rfl) t0
 have za : a.size ≤ 140737488351232 := sized_string hsz (j := 0) (t := 9) (bytes := a.data.toList) rfl rfl
 clear hA0
 simp only [List.append_nil] at hW'
 refine (ParsePlaces_walk a (by omega) W hE).mono fun e W' ⟨he, hf⟩ => ?_
 subst he
 refine ⟨_, rfl, _, _, _, [], [], [], hW', ?_, ?_, rfl, hf.below0.frame _, fun h => by cases h⟩
 ·exact trodAll_cons_mk (shut_bool Tryz.underlying4 _) trodAll_mk0
 ·exact trodAll_cons_mk (shut_string Tryz.underlying9 ha) trodAll_mk0
set_option maxRecDepth 100000 in
theorem parsePlaces_lifted (os : Os) (started : os.Started) (H : Type) (enc : TypeId × Value → H) (F : Stop.Interp) :
  ReturnsInHanded {} Tryz.checked os 8 .any ((OpenSpec.ofChange Rows.parsePlacesSpec).preRow enc Tryz.prog Tryz.f8 Rows.parsePlacesRow.domain false Rows.parsePlacesRow.laid) (((OpenSpec.ofChange Rows.parsePlacesSpec).at F).post enc Tryz.prog Tryz.f8 false true false false) := by
 obtain ⟨places, hx⟩ := parsePlaces_reads os enc
 refine returnsInHanded_of_row (C := Tryz.checked) (s := OpenSpec.ofChange Rows.parsePlacesSpec) own started (by kernel_rfl) Tryz.func8
  (witness_row_atRef (enc := enc) (C := Tryz.checked) false (doorW os) #[.string ⟨#[]⟩] rfl (by kernel_rfl) (by kernel_rfl) (by kernel_rfl)
   (OpenSpec.preRow_of_cond 8 hx (by kernel_rfl) (fun k hk => by cases hk) (by kernel_rfl) (laid_met os _))) ?_
 intro W base args ds gs before hval hW _ _ hsz hL hS _
 exact parsePlaces_contract H enc W base args ds gs before hval hW hsz hL hS
theorem parsePlaces_said : Rows.ParsePlacesSaid :=
 OpenClaim.holds_of_cond 8 Tryz.f8 rfl rfl rfl rfl rfl rfl rfl ⟨rfl, rfl, rfl, rfl, rfl⟩ rfl rfl rfl rfl rfl (by kernel_rfl) Tryz.func8 (by kernel_rfl)
  (of_decide_eq_true (by kernel_rfl)) (by unfold Func.isWrapper; first | (rw [if_pos (by decide +kernel)]; kernel_rfl) | (rw [if_neg (by decide +kernel)]; exact ⟨rfl, rfl⟩))
  (fun os started H enc _ F => by rw [OpenClaim.pre_eq_preRow]; exact parsePlaces_lifted os started H enc F)
theorem parsePlaces_plain (f : FuncId) (fn : Func) (hf : Tryz.pinned.checked.prog.funcNamed "marquetry/marquetrylaw06.ParsePlaces" = some f) (hfn : Tryz.pinned.checked.prog.funcs[f]? = some fn) :
  true = Tryz.pinned.checked.prog.looks [] ∧ ∀ (j : Nat) t, fn.params[j]? = some t → Tryz.pinned.checked.prog.wantsStandIn t = false := by
 obtain rfl : f = 8 := Option.some.inj ((show Tryz.prog.funcNamed "marquetry/marquetrylaw06.ParsePlaces" = some 8 by kernel_rfl).symm.trans hf) |>.symm
 obtain rfl : fn = Tryz.f8 := (Option.some.inj (Tryz.func8.symm.trans hfn)).symm
 refine ⟨by kernel_rfl, fun j t ht => ?_⟩
 rw [Tryz.params8] at ht
 have hm : t ∈ [9] := by simpa using Array.mem_of_getElem? ht
 have hall : ([9].all fun u => !Tryz.prog.wantsStandIn u) = true := by kernel_rfl
 exact (show Tryz.prog.wantsStandIn t = false by simpa using List.all_eq_true.1 hall t hm)
theorem parsePlaces_card : Rows.ParsePlacesCardSaid :=
 Claim7.holds_tied_plain_at .later [] _ _ _ _ parsePlaces_said (fun _ h => by cases h) (by kernel_rfl) (fun _ h => by cases h) parsePlaces_row_tie rfl ⟨rfl, rfl⟩ (by kernel_rfl) rfl parsePlaces_plain (by kernel_rfl)
end
end Go.Proofs.YtpjkfeehgookkaaGreatDoor
