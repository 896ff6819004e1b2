/- Blanks behind each token change places alone: proved for every input. -/
import Derived.Lib.ConvBytes
import Derived.BigQuiet
import Derived.Deep.QuietTactic
import Derived.Deep.RegionHeld3
import Derived.Test.YtpjkfeehgookkaaGreatDoorCb6
namespace Go.Proofs.YtpjkfeehgookkaaGreatDoor
open Go.RowKit
theorem BI.frame {w : World} {b : Nat} {r : Option (Nat × Obj)} {l : List UInt8} {wr : World} (h : BI w b r l wr) : Fr [] w wr := by
 obtain ⟨own, _, _, _, hf, _⟩ := h
 exact hf
end Go.Proofs.YtpjkfeehgookkaaGreatDoor
namespace Go.Proofs.YtpjkfeehgookkaaGreatDoor
open Go.RowKit
attribute [local go_sem ↓] Go.wp_at_zero Go.wp_at_succ
theorem kc {w w' : World} {p : Addr} {v : Value} (f : Fr [] w w') (h : w.cell? p = some v) (hlt : p.block < w.heap.size) : w'.cell? p = some v := (f.cell hlt (fun x => by cases x)).trans h
set_option maxHeartbeats 2000000 in
set_option maxRecDepth 100000 in
theorem texts_any (ls : List (List UInt8)) (hls : ls.length ≤ 1099511627776) (A A' : Option Addr) (c c' : Nat) (w : World) {ok ok' : Nat → Prop} {cs cs' : Nat → List Value} (h : SlAt w ok (.slice A ls.length c) ls.length 1 cs) (e : ∀ (i : Nat) (x : List UInt8), ls[i]? = some x → cs i = strC x)
  (h' : SlAt w ok' (.slice A' ls.length c') ls.length 1 cs') (e' : ∀ (i : Nat) (x : List UInt8), ls[i]? = some x → cs' i = strC x) :
  Calls Tryz.prog 24 #[.slice A ls.length c, .slice A' ls.length c'] w fun e w' => e = .returned (.bool true) ∧ Fr [] w w' := by
 have H := Lib.hid h
 have H' := Lib.hid h'
 have E := Lib.hid e
 have E' := Lib.hid e'
 have hl : (ls.length : Int) ≤ 1099511627776 := by omega
 clear h h' e e'
 go_enter Tryz.func24, Tryz.ntmps24
 go_wp2_with fail
 go_loopw [5] (fun iv wr => ∃ i : Nat, iv = .int .i64 i ∧ i ≤ ls.length ∧ Fr [] w wr) (fun iv wr => ls.length - (intOf iv).toNat)
 case atStart => exact ⟨0, rfl, by omega, Fr.refl _ _⟩
 case round =>
  obtain ⟨i, rfl, hi, f⟩ := hrel
  by_cases hlt : i < ls.length
  ·obtain ⟨g, og, rfl, _, hg, _, _, hc⟩ := H.out.row hlt
   obtain ⟨g', og', rfl, _, hg', _, _, hc'⟩ := H'.out.row hlt
   have hx : ls[i]? = some ls[i] := List.getElem?_eq_getElem hlt
   rw [E.out i _ hx] at hc
   rw [E'.out i _ hx] at hc'
   have x0 : wr.cell? ⟨g, og + i, none⟩ = some (.string ⟨(ls[i]).toArray⟩) := (f.cell (p := ⟨g, og + i, none⟩) hg (fun x => by cases x)).trans (by have := hc 0 _ rfl; simpa using this)
   have x1 : wr.cell? ⟨g', og' + i, none⟩ = some (.string ⟨(ls[i]).toArray⟩) := (f.cell (p := ⟨g', og' + i, none⟩) hg' (fun x => by cases x)).trans (by have := hc' 0 _ rfl; simpa using this)
   generalize ls[i] = s at *
   clear hc hc' hx
   have q1 : (0 : Int) ≤ (i : Int) := by omega
   have q2 : (i : Int) < (ls.length : Int) := by omega
   go_wp2_with fail
   go_quiet (fail)
   go_wp2_with fail
   go_roundw
   case rel => exact ⟨i + 1, by simp, by omega, f.drewN _⟩
   case measure => simp [intOf]; omega
  ·have ei : i = ls.length := by omega
   subst ei
   go_wp2_with fail
   go_ret
   exact ⟨rfl, f⟩
end Go.Proofs.YtpjkfeehgookkaaGreatDoor
namespace Go.Proofs.YtpjkfeehgookkaaGreatDoor
open Go.RowKit
mutual
def laP : PatT → Nat
 | .mk _ _ _ _ _ ls args => 1 + ls.length + laPs args
def laPs : List PatT → Nat
 | [] => 0
 | x :: l => laP x + laPs l
end
mutual
def laE : ExprT → Nat
 | .mk _ _ _ _ _ ls args arms => 1 + ls.length + (laEs args + laAs arms)
def laEs : List ExprT → Nat
 | [] => 0
 | x :: l => laE x + laEs l
def laAs : List (PatT × ExprT) → Nat
 | [] => 0
 | x :: l => laA x + laAs l
def laA : PatT × ExprT → Nat
 | (p, x) => laP p + laE x
end
theorem laPs_app (l m : List PatT) : laPs (l ++ m) = laPs l + laPs m := by
 induction l with
 | nil => simp [laPs]
 | cons x l ih => simp [laPs, ih]; omega
theorem laEs_app (l m : List ExprT) : laEs (l ++ m) = laEs l + laEs m := by
 induction l with
 | nil => simp [laEs]
 | cons x l ih => simp [laEs, ih]; omega
theorem laAs_app (l m : List (PatT × ExprT)) : laAs (l ++ m) = laAs l + laAs m := by
 induction l with
 | nil => simp [laAs]
 | cons x l ih => simp [laAs, ih]; omega
theorem laPs_get {l : List PatT} {i : Nat} {x : PatT} (h : l[i]? = some x) : laP x ≤ laPs l := by
 induction l generalizing i with
 | nil => simp at h
 | cons y l ih =>
  cases i with
  | zero => simp at h; subst h; simp [laPs]
  | succ i => simp at h; have := ih h; simp [laPs]; omega
theorem laEs_get {l : List ExprT} {i : Nat} {x : ExprT} (h : l[i]? = some x) : laE x ≤ laEs l := by
 induction l generalizing i with
 | nil => simp at h
 | cons y l ih =>
  cases i with
  | zero => simp at h; subst h; simp [laEs]
  | succ i => simp at h; have := ih h; simp [laEs]; omega
theorem laAs_get {l : List (PatT × ExprT)} {i : Nat} {p : PatT} {x : ExprT} (h : l[i]? = some (p, x)) : laP p + laE x ≤ laAs l := by
 induction l generalizing i with
 | nil => simp at h
 | cons y l ih =>
  cases i with
  | zero => simp at h; subst h; simp [laAs, laA]
  | succ i => simp at h; have := ih h; simp [laAs]; omega
theorem laPs_ge (l : List PatT) : l.length ≤ laPs l := by
 induction l with
 | nil => simp
 | cons x l ih => cases x; simp [laPs, laP]; omega
theorem laEs_ge (l : List ExprT) : l.length ≤ laEs l := by
 induction l with
 | nil => simp
 | cons x l ih => cases x; simp [laEs, laE]; omega
theorem laAs_ge (l : List (PatT × ExprT)) : l.length ≤ laAs l := by
 induction l with
 | nil => simp
 | cons x l ih => obtain ⟨p, x⟩ := x; cases x; cases p; simp [laAs, laA, laE, laP]; omega
def lbaseE : NT → Nat
 | .armsL _ _ x acc => laE x + laAs acc + 2
 | .sumL a => laE a + 1
 | .prodL a => laE a + 1
 | .opL _ _ _ acc => laEs acc + 2
 | .appL a => laE a + 1
 | .postL a => laE a + 1
 | .braces _ => 2
 | .recL _ ls args => laEs args + ls.length + 2
 | _ => 0
def lbaseP : PNT → Nat
 | .marked (.mk _ _ _ _ _ ls args) => laPs args + ls.length
 | .recL _ ls args => laPs args + ls.length + 2
 | _ => 0
def lWt : Nat → Cmd → Prop
 | b, .retE x => laE x + 1 ≤ b
 | b, .retP x => laP x + 1 ≤ b
 | b, .look k => ∀ t, lWt b (k t true)
 | b, .ahead k => ∀ n, lWt b (k n)
 | b, .adv k => lWt (b + 2) k
 | _, .fail _ => True
 | b, .callE nt k => ∀ x m, laE x + 1 ≤ lbaseE nt + 2 * m → lWt (b + 2 * m) (k x)
 | b, .callP nt k => ∀ x m, laP x + 1 ≤ lbaseP nt + 2 * m → lWt (b + 2 * m) (k x)
theorem lwt_ite {p : Prop} [Decidable p] {b : Nat} {c d : Cmd} (h1 : p → lWt b c) (h2 : ¬ p → lWt b d) : lWt b (if p then c else d) := by
 split
 ·exact h1 (by assumption)
 ·exact h2 (by assumption)
theorem lwt_mayG {s : List UInt8} {b : Nat} {k : Bool → Cmd} (h1 : lWt (b + 2) (k true)) (h2 : lWt b (k false)) : lWt b (mayC s k) := fun _ => lwt_ite (fun _ => h1) (fun _ => h2)
theorem lwt_may {s : List UInt8} {b : Nat} {c d : Cmd} (h1 : lWt (b + 2) c) (h2 : lWt b d) : lWt b (mayC s fun b => if b = true then c else d) := lwt_mayG h1 h2
theorem lwt_adv {b : Nat} {c : Cmd} (h : lWt (b + 2) c) : lWt b (.adv c) := h
theorem lwt_fail {b : Nat} {c : Cmd} : lWt b (.fail c) := trivial
theorem lwt_isI {l : List (List UInt8)} {b : Nat} {c d : Cmd} (h1 : lWt b c) (h2 : lWt b d) : lWt b (isC l fun b => if b = true then c else d) := fun t => by
 show lWt b (if _ then _ else _)
 exact lwt_ite (fun _ => h1) (fun _ => h2)
theorem lwt_must {s : List UInt8} {b : Nat} {c : Cmd} (h : lWt (b + 2) c) : lWt b (mustC s c) := fun _ => lwt_ite (fun _ => h) (fun _ => trivial)
theorem lwt_name {b : Nat} {k : List UInt8 → Cmd} (h : ∀ s, lWt (b + 2) (k s)) : lWt b (nameC k) := fun _ => lwt_ite (fun _ => h _) (fun _ => trivial)
theorem lwt_ret {x : ExprT} {b : Nat} (h : laE x + 1 ≤ b) : lWt b (.retE x) := h
theorem lwt_retP {x : PatT} {b : Nat} (h : laP x + 1 ≤ b) : lWt b (.retP x) := h
theorem lwtP (nt : PNT) : lWt (lbaseP nt) (bodyP nt) := by
 cases nt with
 | pat =>
  refine fun t => lwt_ite (fun _ => fun x m h => lwt_retP ?_) (fun _ => fun x m h => lwt_retP ?_) <;> simp only [List.length_nil, lbaseP, laP, laPs] at * <;> omega
 | patom =>
  refine fun t => lwt_ite (fun h => by cases h) (fun _ => lwt_ite (fun _ => lwt_retP ?_) (fun _ => lwt_ite (fun _ => lwt_retP ?_) (fun _ => lwt_ite (fun _ => lwt_retP ?_) (fun _ => lwt_ite (fun _ => lwt_retP ?_) (fun _ => fun x m h => lwt_retP ?_)))))
  ·split <;> simp [laP, laPs, lbaseP]
  all_goals simp only [List.length_nil, lbaseP, laP, laPs] at * <;> omega
 | marked x =>
  obtain ⟨k, a, nm, n, s, ls, args⟩ := x
  unfold bodyP
  refine lwt_may ?_ (lwt_may ?_ (lwt_may ?_ (lwt_may ?_ (lwt_may ?_ lwt_fail))))
  ·exact fun t => lwt_ite (fun _ => lwt_ite (fun _ => lwt_retP (by simp only [lbaseP, laP]; omega)) (fun _ => lwt_retP (by simp only [lbaseP, laP]; omega))) (fun _ => trivial)
  ·exact lwt_retP (by simp only [lbaseP, laP]; omega)
  ·exact lwt_retP (by simp only [lbaseP, laP]; omega)
  ·exact lwt_may (lwt_retP (by simp only [lbaseP, laP]; omega)) (fun x m h => lwt_must (lwt_retP (by simp only [lbaseP] at *; omega)))
  ·refine lwt_may (lwt_retP (by simp only [lbaseP, laP]; omega)) (fun t => lwt_ite (fun _ => fun x m h => lwt_retP (by simp only [lbaseP] at *; omega)) (fun h => absurd rfl h))
 | recL a ls args =>
  unfold bodyP
  refine lwt_name fun s => lwt_must fun x m h => lwt_may ?_ ?_
  ·exact fun y m2 h2 => lwt_retP (by simp only [List.length_nil, List.length_append, List.length_cons, lbaseP, laPs_app, laPs] at *; omega)
  ·exact lwt_must (lwt_retP (by simp only [List.length_nil, List.length_append, List.length_cons, lbaseP, laPs_app, laPs, laP] at *; omega))
theorem lwtE (nt : NT) : lWt (lbaseE nt) (body nt) := by
 cases nt with
 | seq => exact fun x m h t => lwt_may (fun y m2 h2 => lwt_ret (by simp only [List.length_nil, lbaseE, nodeE, laE, laEs, laAs] at *; omega)) (lwt_ret (by simp only [lbaseE] at *; omega))
 | item =>
  refine fun t => lwt_may ?_ (lwt_isI (fun x m h => lwt_ret (by simp only [lbaseE] at *; omega)) (lwt_may (fun x m h => lwt_ret (by simp only [lbaseE] at *; omega)) (lwt_may (fun x m h => lwt_ret (by simp only [lbaseE] at *; omega)) (lwt_may ?_ (lwt_may ?_ ?_)))))
  ·refine lwt_mayG ?_ ?_
   ·exact lwt_name fun s => lwt_must fun x m h => lwt_must fun y m2 h2 => lwt_ret (by simp only [List.length_nil, if_true, lbaseE, laE, laEs, laAs] at *; omega)
   ·exact lwt_name fun s => lwt_must fun x m h => lwt_must fun y m2 h2 => lwt_ret (by
     have h : laE x + 1 ≤ lbaseE .seq + 2 * m := h
     simp only [List.length_nil, lbaseE, laE, laEs, laAs] at *; omega)
  ·exact fun x m h => lwt_must fun y m2 h2 => lwt_must fun z m3 h3 => lwt_ret (by simp only [List.length_nil, lbaseE, nodeE, laE, laEs, laAs] at *; omega)
  ·exact fun x m h => lwt_ret (by simp only [List.length_nil, lbaseE, nodeE, laE, laEs, laAs] at *; omega)
  ·exact fun x m h t => lwt_may (fun y m2 h2 => lwt_ret (by simp only [List.length_nil, lbaseE, opE, laE, laEs, laAs] at *; omega)) (lwt_ret (by simp only [lbaseE] at *; omega))
 | fn => exact fun t => lwt_must (lwt_name fun s => lwt_must fun x m h => lwt_ret (by simp only [List.length_nil, lbaseE, laE, laEs, laAs] at *; omega))
 | arms k a => exact fun x m h => lwt_must fun t => lwt_ite (fun _ => fun y m2 h2 => lwt_ret (by simp only [lbaseE, laAs] at *; omega)) (fun h => absurd rfl h)
 | armsL k a x acc => exact fun p m h => lwt_must fun y m2 h2 => lwt_may (fun z m3 h3 => lwt_ret (by simp only [lbaseE, lbaseP, laAs_app, laAs, laA] at *; omega)) (lwt_must (lwt_ret (by simp only [List.length_nil, lbaseE, lbaseP, laAs_app, laAs, laA, laE, laEs] at *; omega)))
 | or => exact fun x m h t => lwt_may (fun y m2 h2 => lwt_ret (by simp only [List.length_nil, lbaseE, nodeE, laE, laEs, laAs] at *; omega)) (lwt_ret (by simp only [lbaseE] at *; omega))
 | and => exact fun x m h t => lwt_may (fun y m2 h2 => lwt_ret (by simp only [List.length_nil, lbaseE, nodeE, laE, laEs, laAs] at *; omega)) (lwt_ret (by simp only [lbaseE] at *; omega))
 | cmp => exact fun x m h t => lwt_ite (fun _ => fun y m2 h2 => lwt_ret (by simp only [List.length_nil, lbaseE, opE, laE, laEs, laAs] at *; omega)) (fun _ => lwt_ret (by simp only [lbaseE] at *; omega))
 | sum => exact fun x m h y m2 h2 => lwt_ret (by simp only [lbaseE] at *; omega)
 | sumL a => exact fun t => lwt_ite (fun _ => fun x m h y m2 h2 => lwt_ret (by simp only [List.length_nil, lbaseE, opE, laE, laEs, laAs] at *; omega)) (fun _ => lwt_ret (by simp only [lbaseE] at *; omega))
 | prod => exact fun x m h y m2 h2 => lwt_ret (by simp only [lbaseE] at *; omega)
 | prodL a => exact fun t => lwt_ite (fun _ => fun x m h y m2 h2 => lwt_ret (by simp only [List.length_nil, lbaseE, opE, laE, laEs, laAs] at *; omega)) (fun _ => lwt_ret (by simp only [lbaseE] at *; omega))
 | unary => exact fun t => lwt_may (fun x m h => lwt_ret (by simp only [List.length_nil, lbaseE, opE, laE, laEs, laAs] at *; omega)) (lwt_may (fun x m h => lwt_ret (by simp only [List.length_nil, lbaseE, opE, laE, laEs, laAs] at *; omega)) (fun x m h => lwt_ret (by simp only [lbaseE] at *; omega)))
 | app =>
  refine fun t => lwt_ite (fun _ => fun x m h => lwt_ret ?_) (fun _ => lwt_ite (fun _ => fun x m h => lwt_ret ?_) (fun _ => fun x m h y m2 h2 => lwt_ret ?_)) <;> simp only [List.length_nil, lbaseE, laE, laEs, laAs] at * <;> omega
 | opL n a m acc =>
  cases m with
  | zero => exact lwt_ret (by simp only [List.length_nil, lbaseE, opE, laE, laAs]; omega)
  | succ m => exact fun x m1 h y m2 h2 => lwt_ret (by simp only [lbaseE, laEs_app, laEs] at *; omega)
 | appL a => exact fun t => lwt_ite (fun _ => fun x m h y m2 h2 => lwt_ret (by simp only [List.length_nil, lbaseE, nodeE, laE, laEs, laAs] at *; omega)) (fun _ => lwt_ret (by simp only [lbaseE] at *; omega))
 | post => exact fun t => lwt_may (fun x m h => lwt_ret (by simp only [List.length_nil, lbaseE, opE, laE, laEs, laAs] at *; omega)) (fun x m h y m2 h2 => lwt_ret (by simp only [lbaseE] at *; omega))
 | postL a => exact fun t => lwt_ite (fun _ => lwt_adv (lwt_name fun s => fun y m2 h2 => lwt_ret (by simp only [List.length_nil, lbaseE, laE, laEs, laAs] at *; omega))) (fun _ => lwt_ret (by simp only [lbaseE] at *; omega))
 | atom =>
  intro t
  refine lwt_ite (fun _ => ?_) (fun _ => trivial)
  show lWt (0 + 2) _
  repeat refine lwt_ite (fun _ => (by first | exact lwt_ret (by simp only [List.length_nil, laE, laEs, laAs]; omega) | exact fun x m h => lwt_ret (by simp only [lbaseE] at *; omega))) (fun _ => ?_)
  exact lwt_may (lwt_ret (by simp only [List.length_nil, laE, laEs, laAs]; omega)) (fun x m h => lwt_must (lwt_ret (by simp only [lbaseE] at *; omega)))
 | braces a =>
  unfold body
  refine lwt_may (lwt_ret (by simp only [List.length_nil, lbaseE, laE, laEs, laAs]; omega)) (fun n t => lwt_ite (fun _ => lwt_ite (fun _ => fun x m h => lwt_ret (by simp only [List.length_nil, lbaseE, laEs] at *; omega)) (fun h => absurd rfl h)) (fun _ => fun x m h => lwt_must (lwt_name fun s => lwt_must fun y m2 h2 => lwt_must (lwt_ret (by simp only [List.length_nil, lbaseE, laE, laEs, laAs] at *; omega)))))
 | recL a ls args =>
  unfold body
  refine lwt_name fun s => lwt_must fun x m h => lwt_may ?_ ?_
  ·exact fun y m2 h2 => lwt_ret (by simp only [List.length_nil, List.length_append, List.length_cons, lbaseE, laEs_app, laEs] at *; omega)
  ·exact lwt_must (lwt_ret (by simp only [List.length_nil, List.length_append, List.length_cons, lbaseE, laEs_app, laEs, laE, laAs] at *; omega))
def laR : Rs → Nat
 | .e x => laE x
 | .p x => laP x
theorem Run.laCost {ts : List Tok} {c : Cmd} {st : St} {r : Rs} {st' : St} (h : Run ts c st r st') : ∀ {b : Nat}, lWt b c → st'.ok = true → laR r + 1 ≤ b + 2 * (st'.i - st.i) := by
 induction h with
 | retE => intro b hw _; simp only [lWt] at hw; simp only [laR]; omega
 | retP => intro b hw _; simp only [lWt] at hw; simp only [laR]; omega
 | look h hk ih => intro b hw hok; have := hk.grows.2 hok; exact ih (by rw [this]; exact hw _) hok
 | ahead h hk ih => intro b hw hok; exact ih (hw _) hok
 | adv hk ih =>
  intro b hw hok
  have h1 := ih (b := b + 2) hw hok
  have h2 := hk.grows.1
  simp only at h1 h2
  omega
 | fail hk ih => intro b hw hok; have := hk.grows.2 hok; cases this
 | @callE nt k st x st1 r st' h hk ih1 ih2 =>
  intro b hw hok
  have h1 := ih1 (lwtE nt) (hk.grows.2 hok)
  have h2 := ih2 (b := b + 2 * (st1.i - st.i)) (hw x _ h1) hok
  have h3 := h.grows.1
  have h4 := hk.grows.1
  omega
 | @callP nt k st x st1 r st' h hk ih1 ih2 =>
  intro b hw hok
  have h1 := ih1 (lwtP nt) (hk.grows.2 hok)
  have h2 := ih2 (b := b + 2 * (st1.i - st.i)) (hw x _ h1) hok
  have h3 := h.grows.1
  have h4 := hk.grows.1
  omega
end Go.Proofs.YtpjkfeehgookkaaGreatDoor
namespace Go.Proofs.YtpjkfeehgookkaaGreatDoor
open Go.RowKit
attribute [local go_sem ↓] Go.wp_at_zero Go.wp_at_succ
def SMP (N : Nat) : Prop := ∀ (k a a' : Int) (nm : List UInt8) (n : Int) (s : List UInt8) (ls : List (List UInt8)) (args args' : List PatT) (A5 A5' : Option Addr) (cc5 cc5' : Nat) (A6 A6' : Option Addr) (cc6 cc6' : Nat) (pl : Bool) (w : World) (ok ok' : Nat → Prop), laP (.mk k a nm n s ls args) < N →
  laP (.mk k a nm n s ls args) ≤ 1099511627776 → PatAt w ok (.mk k a nm n s ls args) [.int .i64 k, .int .i64 a, .string ⟨nm.toArray⟩, .int .i64 n, .string ⟨s.toArray⟩, .slice A5 ls.length cc5, .slice A6 args.length cc6] → PatAt w ok' (.mk k a' nm n s ls args') [.int .i64 k, .int .i64 a', .string ⟨nm.toArray⟩, .int .i64 n, .string ⟨s.toArray⟩, .slice A5' ls.length cc5', .slice A6' args.length cc6'] → SL SameP args args' → (pl = true → a = a' ∧ args = args') →
  Calls Tryz.prog 25 #[.agg #[.int .i64 k, .int .i64 a, .string ⟨nm.toArray⟩, .int .i64 n, .string ⟨s.toArray⟩, .slice A5 ls.length cc5, .slice A6 args.length cc6], .agg #[.int .i64 k, .int .i64 a', .string ⟨nm.toArray⟩, .int .i64 n, .string ⟨s.toArray⟩, .slice A5' ls.length cc5', .slice A6' args.length cc6'], .bool pl] w fun e w' => e = .returned (.bool true) ∧ Fr [] w w'
set_option maxHeartbeats 8000000 in
set_option maxRecDepth 100000 in
theorem samep_step (N : Nat) (ih : SMP N) : SMP (N + 1) := by
 intro k a a' nm n s ls args args' A5 A5' cc5 cc5' A6 A6' cc6 cc6' pl w ok ok' hN hz hx hy hS hp
 cases hx with
 | mk c5 c6 h5 e5 h6 e6 =>
 cases hy with
 | mk d5 d6 h5' e5' h6' e6' =>
 rw [← hS.1] at h6'
 have hsz : laP (.mk k a nm n s ls args) = 1 + ls.length + laPs args := by simp [laP]
 rw [hsz] at hN hz
 have hm6 : (args.length : Int) ≤ 1099511627776 := by have := laPs_ge args; omega
 have hm5 : (ls.length : Int) ≤ 1099511627776 := by omega
 have IH := Lib.hid ih
 have H6 := Lib.hid h6
 have H6' := Lib.hid h6'
 have E6 : Hid (∀ (i : Nat) (x : PatT), args[i]? = some x → PatAt w ok x (c6 i)) := Lib.hid e6
 have E6' : Hid (∀ (i : Nat) (x : PatT), args'[i]? = some x → PatAt w ok' x (d6 i)) := Lib.hid e6'
 have HS := Lib.hid hS
 have HP := Lib.hid hp
 have cT := fun W (hW : Fr [] w W) => Lib.hid (texts_any ls (by omega) A5 A5' cc5 cc5' W (h5.keep (ok' := ok) (Sh.of_fr hW (fun b hb _ => ⟨hb, fun x => by cases x⟩))) e5 (h5'.keep (ok' := ok') (Sh.of_fr hW (fun b hb _ => ⟨hb, fun x => by cases x⟩))) e5')
 clear ih h5 e5 h6 e6 h5' e5' h6' e6' hS hp
 have f0 : Fr [] w ((w.alloc (.cells #[.int .i64 k, .int .i64 a, .string ⟨nm.toArray⟩, .int .i64 n, .string ⟨s.toArray⟩, .slice A5 ls.length cc5, .slice A6 args.length cc6] 62)).alloc (.cells #[.int .i64 k, .int .i64 a', .string ⟨nm.toArray⟩, .int .i64 n, .string ⟨s.toArray⟩, .slice A5' ls.length cc5', .slice A6' args.length cc6'] 62)) := ((Fr.refl [] w).alloc _).alloc _
 have q3 := heap_old (heap_new w (.cells #[.int .i64 k, .int .i64 a, .string ⟨nm.toArray⟩, .int .i64 n, .string ⟨s.toArray⟩, .slice A5 ls.length cc5, .slice A6 args.length cc6] 62)) (.cells #[.int .i64 k, .int .i64 a', .string ⟨nm.toArray⟩, .int .i64 n, .string ⟨s.toArray⟩, .slice A5' ls.length cc5', .slice A6' args.length cc6'] 62)
 have q4 := heap_new (w.alloc (.cells #[.int .i64 k, .int .i64 a, .string ⟨nm.toArray⟩, .int .i64 n, .string ⟨s.toArray⟩, .slice A5 ls.length cc5, .slice A6 args.length cc6] 62)) (.cells #[.int .i64 k, .int .i64 a', .string ⟨nm.toArray⟩, .int .i64 n, .string ⟨s.toArray⟩, .slice A5' ls.length cc5', .slice A6' args.length cc6'] 62)
 have hs1 : (w.alloc (.cells #[.int .i64 k, .int .i64 a, .string ⟨nm.toArray⟩, .int .i64 n, .string ⟨s.toArray⟩, .slice A5 ls.length cc5, .slice A6 args.length cc6] 62)).heap.size = w.heap.size + 1 := by simp
 rw [hs1] at q4
 have hs2 : ((w.alloc (.cells #[.int .i64 k, .int .i64 a, .string ⟨nm.toArray⟩, .int .i64 n, .string ⟨s.toArray⟩, .slice A5 ls.length cc5, .slice A6 args.length cc6] 62)).alloc (.cells #[.int .i64 k, .int .i64 a', .string ⟨nm.toArray⟩, .int .i64 n, .string ⟨s.toArray⟩, .slice A5' ls.length cc5', .slice A6' args.length cc6'] 62)).heap.size = w.heap.size + 2 := by simp
 have HQ3 := Lib.hid q3
 have HQ4 := Lib.hid q4
 clear q3 q4 hs1
 have hpl : pl = true → a = a' := fun h => (HP.out h).1
 cases pl with
 | true =>
  obtain rfl := hpl rfl
  clear hpl
  go_enter Tryz.func25, Tryz.ntmps25
  go_wp2_with fail
  refine (cT _ f0).out.mono ?_
  rintro e w1 ⟨rfl, f1⟩
  clear cT
  have f := f0.trans f1
  have q3 := f1.keep HQ3.out (fun x => by cases x)
  have q4 := f1.keep HQ4.out (fun x => by cases x)
  have hT2 : w.heap.size + 2 ≤ w1.heap.size := by have := f1.size; omega
  clear f0 f1 HQ3 HQ4 hs2
  have t6 : w1.cell? ⟨w.heap.size, 6, none⟩ = some (.slice A6 args.length cc6) := cell_of q3 6
  have t6' : w1.cell? ⟨w.heap.size + 1, 6, none⟩ = some (.slice A6' args.length cc6') := cell_of q4 6
  have hTa : w.heap.size < w1.heap.size := by omega
  have hTb : w.heap.size + 1 < w1.heap.size := by omega
  go_wp2_with fail
  clear t6 t6' hTa hTb
  go_loopw [7] (fun iv wr => ∃ i : Nat, iv = .int .i64 i ∧ i ≤ args.length ∧ Fr [] w1 wr) (fun iv wr => args.length - (intOf iv).toNat)
  case atStart => exact ⟨0, rfl, by omega, Fr.refl _ _⟩
  case round =>
   obtain ⟨i, rfl, hi, fr⟩ := hrel
   have q3 := fr.keep q3 (fun x => by cases x)
   have q4 := fr.keep q4 (fun x => by cases x)
   have f := f.trans fr
   have hTw : w.heap.size + 2 ≤ wr.heap.size := by have := fr.size; omega
   generalize hT : w.heap.size = T at *
   have t6 : wr.cell? ⟨T, 6, none⟩ = some (.slice A6 args.length cc6) := cell_of q3 6
   have t6' : wr.cell? ⟨T + 1, 6, none⟩ = some (.slice A6' args.length cc6') := cell_of q4 6
   have hTa : T < wr.heap.size := by omega
   have hTb : T + 1 < wr.heap.size := by omega
   by_cases hlt : i < args.length
   ·obtain ⟨g, og, rfl, _, hg, _, _, hc⟩ := H6.out.row hlt
    obtain ⟨g', og', rfl, _, hg', _, _, hc'⟩ := H6'.out.row hlt
    obtain ⟨x, hx⟩ : ∃ x, args[i]? = some x := ⟨args[i], List.getElem?_eq_getElem hlt⟩
    obtain ⟨y, hy⟩ : ∃ y, args'[i]? = some y := ⟨args'[i]'(by rw [← HS.out.1]; exact hlt), List.getElem?_eq_getElem _⟩
    have hxy := HS.out.2 i x y hx hy
    have hpx : (true : Bool) = true → x = y := fun h => by
     have := (HP.out (by first | exact h | trivial | simp)).2
     rw [this, hy] at hx
     exact (Option.some.inj hx).symm
    have hxx := E6.out i x hx
    have hyy := E6'.out i y hy
    have hzx := laPs_get hx
    clear hx hy
    generalize c6 i = ci at *
    generalize d6 i = di at *
    have hxw := hxx.keep (w' := wr) (ok' := ok) (Sh.of_fr f (fun b hb _ => ⟨hb, fun x => by cases x⟩))
    have hyw := hyy.keep (w' := wr) (ok' := ok') (Sh.of_fr f (fun b hb _ => ⟨hb, fun x => by cases x⟩))
    cases hxy with
    | @mk k2 a2 a2' nm2 n2 s2 ls2 args2 args2' hl2 hh2 =>
    cases hxx with
    | mk _ _ r5 _ r6 _ =>
    cases hyy with
    | mk _ _ r5' _ r6' _ =>
    have hf : ∀ {v : Value} {n size : Nat} {cs : Nat → List Value} {o : Nat → Prop}, SlAt w o v n size cs → ∃ A c, v = .slice A n c := fun h => h.form
    obtain ⟨A52, cc52, rfl⟩ := hf r5
    obtain ⟨A62, cc62, rfl⟩ := hf r6
    obtain ⟨A52', cc52', rfl⟩ := hf r5'
    obtain ⟨A62', cc62', rfl⟩ := hf r6'
    clear hf r5 r6 r5' r6'
    rw [← hl2] at hc' hyw
    have x0 : wr.cell? ⟨g, og + i * 7, none⟩ = some (.int .i64 k2) := (f.cell (p := ⟨g, og + i * 7, none⟩) hg (fun x => by cases x)).trans (hc 0 _ rfl)
    have x1 : wr.cell? ⟨g, og + i * 7 + 1, none⟩ = some (.int .i64 a2) := (f.cell (p := ⟨g, og + i * 7 + 1, none⟩) hg (fun x => by cases x)).trans (hc 1 _ rfl)
    have x2 : wr.cell? ⟨g, og + i * 7 + 2, none⟩ = some (.string ⟨nm2.toArray⟩) := (f.cell (p := ⟨g, og + i * 7 + 2, none⟩) hg (fun x => by cases x)).trans (hc 2 _ rfl)
    have x3 : wr.cell? ⟨g, og + i * 7 + 3, none⟩ = some (.int .i64 n2) := (f.cell (p := ⟨g, og + i * 7 + 3, none⟩) hg (fun x => by cases x)).trans (hc 3 _ rfl)
    have x4 : wr.cell? ⟨g, og + i * 7 + 4, none⟩ = some (.string ⟨s2.toArray⟩) := (f.cell (p := ⟨g, og + i * 7 + 4, none⟩) hg (fun x => by cases x)).trans (hc 4 _ rfl)
    have x5 : wr.cell? ⟨g, og + i * 7 + 5, none⟩ = some (.slice A52 ls2.length cc52) := (f.cell (p := ⟨g, og + i * 7 + 5, none⟩) hg (fun x => by cases x)).trans (hc 5 _ rfl)
    have x6 : wr.cell? ⟨g, og + i * 7 + 6, none⟩ = some (.slice A62 args2.length cc62) := (f.cell (p := ⟨g, og + i * 7 + 6, none⟩) hg (fun x => by cases x)).trans (hc 6 _ rfl)
    have y0 : wr.cell? ⟨g', og' + i * 7, none⟩ = some (.int .i64 k2) := (f.cell (p := ⟨g', og' + i * 7, none⟩) hg' (fun x => by cases x)).trans (hc' 0 _ rfl)
    have y1 : wr.cell? ⟨g', og' + i * 7 + 1, none⟩ = some (.int .i64 a2') := (f.cell (p := ⟨g', og' + i * 7 + 1, none⟩) hg' (fun x => by cases x)).trans (hc' 1 _ rfl)
    have y2 : wr.cell? ⟨g', og' + i * 7 + 2, none⟩ = some (.string ⟨nm2.toArray⟩) := (f.cell (p := ⟨g', og' + i * 7 + 2, none⟩) hg' (fun x => by cases x)).trans (hc' 2 _ rfl)
    have y3 : wr.cell? ⟨g', og' + i * 7 + 3, none⟩ = some (.int .i64 n2) := (f.cell (p := ⟨g', og' + i * 7 + 3, none⟩) hg' (fun x => by cases x)).trans (hc' 3 _ rfl)
    have y4 : wr.cell? ⟨g', og' + i * 7 + 4, none⟩ = some (.string ⟨s2.toArray⟩) := (f.cell (p := ⟨g', og' + i * 7 + 4, none⟩) hg' (fun x => by cases x)).trans (hc' 4 _ rfl)
    have y5 : wr.cell? ⟨g', og' + i * 7 + 5, none⟩ = some (.slice A52' ls2.length cc52') := (f.cell (p := ⟨g', og' + i * 7 + 5, none⟩) hg' (fun x => by cases x)).trans (hc' 5 _ rfl)
    have y6 : wr.cell? ⟨g', og' + i * 7 + 6, none⟩ = some (.slice A62' args2.length cc62') := (f.cell (p := ⟨g', og' + i * 7 + 6, none⟩) hg' (fun x => by cases x)).trans (hc' 6 _ rfl)
    clear hc hc'
    have hgw : g < wr.heap.size := Nat.lt_of_lt_of_le hg f.size
    have hgw' : g' < wr.heap.size := Nat.lt_of_lt_of_le hg' f.size
    have cP := Lib.hid (IH.out k2 a2 a2' nm2 n2 s2 ls2 args2 args2' A52 A52' cc52 cc52' A62 A62' cc62 cc62' true wr.drew ok ok' (by omega) (by omega) (hxw.keep (Sh.of_fr (Fr.refl [] wr).drew (fun b hb _ => ⟨hb, fun x => by cases x⟩))) (by rw [hl2]; have := hyw.keep (w' := wr.drew) (ok' := ok') (Sh.of_fr (Fr.refl [] wr).drew (fun b hb _ => ⟨hb, fun x => by cases x⟩)); rw [hl2] at this; exact this) ⟨hl2, hh2⟩ (fun h => by have := hpx h; cases this; exact ⟨rfl, rfl⟩))
    clear hxw hyw hpx hzx
    have q1 : (0 : Int) ≤ (i : Int) := by omega
    have q2 : (i : Int) < (args.length : Int) := by omega
    have HH := Lib.hid hh2
    have HL2 := Lib.hid hl2
    clear hh2 hl2
    go_wp2_with fail
    go_region_held3 (fun w' => w'.cell? ⟨T, 6, none⟩ = some (.slice (some ⟨g, og, none⟩) args.length cc6) ∧ w'.cell? ⟨T + 1, 6, none⟩ = some (.slice (some ⟨g', og', none⟩) args.length cc6') ∧ (w'.cell? ⟨g, og + i * 7, none⟩ = some (.int .i64 k2) ∧ w'.cell? ⟨g, og + i * 7 + 1, none⟩ = some (.int .i64 a2) ∧ w'.cell? ⟨g, og + i * 7 + 2, none⟩ = some (.string ⟨nm2.toArray⟩) ∧ w'.cell? ⟨g, og + i * 7 + 3, none⟩ = some (.int .i64 n2) ∧ w'.cell? ⟨g, og + i * 7 + 4, none⟩ = some (.string ⟨s2.toArray⟩) ∧ w'.cell? ⟨g, og + i * 7 + 5, none⟩ = some (.slice A52 ls2.length cc52) ∧ w'.cell? ⟨g, og + i * 7 + 6, none⟩ = some (.slice A62 args2.length cc62)) ∧ (w'.cell? ⟨g', og' + i * 7, none⟩ = some (.int .i64 k2) ∧ w'.cell? ⟨g', og' + i * 7 + 1, none⟩ = some (.int .i64 a2') ∧ w'.cell? ⟨g', og' + i * 7 + 2, none⟩ = some (.string ⟨nm2.toArray⟩) ∧ w'.cell? ⟨g', og' + i * 7 + 3, none⟩ = some (.int .i64 n2) ∧ w'.cell? ⟨g', og' + i * 7 + 4, none⟩ = some (.string ⟨s2.toArray⟩) ∧ w'.cell? ⟨g', og' + i * 7 + 5, none⟩ = some (.slice A52' ls2.length cc52') ∧ w'.cell? ⟨g', og' + i * 7 + 6, none⟩ = some (.slice A62' args2.length cc62'))) (first | go_keep | exact ⟨t6, t6', ⟨x0, x1, x2, x3, x4, x5, x6⟩, y0, y1, y2, y3, y4, y5, y6⟩) (((with_reducible refine cP.out.mono ?_); rintro e w3 ⟨rfl, f3⟩; have t6 := kc (w := wr.drew) f3 t6 hTa; have t6' := kc (w := wr.drew) f3 t6' hTb; have x0 := kc (w := wr.drew) f3 x0 hgw; have y0 := kc (w := wr.drew) f3 y0 hgw'; have x1 := kc (w := wr.drew) f3 x1 hgw; have y1 := kc (w := wr.drew) f3 y1 hgw'; have x2 := kc (w := wr.drew) f3 x2 hgw; have y2 := kc (w := wr.drew) f3 y2 hgw'; have x3 := kc (w := wr.drew) f3 x3 hgw; have y3 := kc (w := wr.drew) f3 y3 hgw'; have x4 := kc (w := wr.drew) f3 x4 hgw; have y4 := kc (w := wr.drew) f3 y4 hgw'; have x5 := kc (w := wr.drew) f3 x5 hgw; have y5 := kc (w := wr.drew) f3 y5 hgw'; have x6 := kc (w := wr.drew) f3 x6 hgw; have y6 := kc (w := wr.drew) f3 y6 hgw'))
    go_wp2_with fail
    go_roundw
    case rel => exact ⟨i + 1, by simp, by omega, fr.trans (((Fr.refl [] wr).drew).trans f3)⟩
    case measure => simp [intOf]; omega
   ·have ei : i = args.length := by omega
    subst ei
    go_wp2_with fail
    go_ret
    exact ⟨rfl, f⟩
 | false =>
  clear hpl
  go_enter Tryz.func25, Tryz.ntmps25
  go_wp2_with fail
  refine (cT _ f0).out.mono ?_
  rintro e w1 ⟨rfl, f1⟩
  clear cT
  have f := f0.trans f1
  have q3 := f1.keep HQ3.out (fun x => by cases x)
  have q4 := f1.keep HQ4.out (fun x => by cases x)
  have hT2 : w.heap.size + 2 ≤ w1.heap.size := by have := f1.size; omega
  clear f0 f1 HQ3 HQ4 hs2
  have t6 : w1.cell? ⟨w.heap.size, 6, none⟩ = some (.slice A6 args.length cc6) := cell_of q3 6
  have t6' : w1.cell? ⟨w.heap.size + 1, 6, none⟩ = some (.slice A6' args.length cc6') := cell_of q4 6
  have hTa : w.heap.size < w1.heap.size := by omega
  have hTb : w.heap.size + 1 < w1.heap.size := by omega
  go_wp2_with fail
  clear t6 t6' hTa hTb
  go_loopw [7] (fun iv wr => ∃ i : Nat, iv = .int .i64 i ∧ i ≤ args.length ∧ Fr [] w1 wr) (fun iv wr => args.length - (intOf iv).toNat)
  case atStart => exact ⟨0, rfl, by omega, Fr.refl _ _⟩
  case round =>
   obtain ⟨i, rfl, hi, fr⟩ := hrel
   have q3 := fr.keep q3 (fun x => by cases x)
   have q4 := fr.keep q4 (fun x => by cases x)
   have f := f.trans fr
   have hTw : w.heap.size + 2 ≤ wr.heap.size := by have := fr.size; omega
   generalize hT : w.heap.size = T at *
   have t6 : wr.cell? ⟨T, 6, none⟩ = some (.slice A6 args.length cc6) := cell_of q3 6
   have t6' : wr.cell? ⟨T + 1, 6, none⟩ = some (.slice A6' args.length cc6') := cell_of q4 6
   have hTa : T < wr.heap.size := by omega
   have hTb : T + 1 < wr.heap.size := by omega
   by_cases hlt : i < args.length
   ·obtain ⟨g, og, rfl, _, hg, _, _, hc⟩ := H6.out.row hlt
    obtain ⟨g', og', rfl, _, hg', _, _, hc'⟩ := H6'.out.row hlt
    obtain ⟨x, hx⟩ : ∃ x, args[i]? = some x := ⟨args[i], List.getElem?_eq_getElem hlt⟩
    obtain ⟨y, hy⟩ : ∃ y, args'[i]? = some y := ⟨args'[i]'(by rw [← HS.out.1]; exact hlt), List.getElem?_eq_getElem _⟩
    have hxy := HS.out.2 i x y hx hy
    have hpx : (false : Bool) = true → x = y := fun h => by
     have := (HP.out (by first | exact h | trivial | simp)).2
     rw [this, hy] at hx
     exact (Option.some.inj hx).symm
    have hxx := E6.out i x hx
    have hyy := E6'.out i y hy
    have hzx := laPs_get hx
    clear hx hy
    generalize c6 i = ci at *
    generalize d6 i = di at *
    have hxw := hxx.keep (w' := wr) (ok' := ok) (Sh.of_fr f (fun b hb _ => ⟨hb, fun x => by cases x⟩))
    have hyw := hyy.keep (w' := wr) (ok' := ok') (Sh.of_fr f (fun b hb _ => ⟨hb, fun x => by cases x⟩))
    cases hxy with
    | @mk k2 a2 a2' nm2 n2 s2 ls2 args2 args2' hl2 hh2 =>
    cases hxx with
    | mk _ _ r5 _ r6 _ =>
    cases hyy with
    | mk _ _ r5' _ r6' _ =>
    have hf : ∀ {v : Value} {n size : Nat} {cs : Nat → List Value} {o : Nat → Prop}, SlAt w o v n size cs → ∃ A c, v = .slice A n c := fun h => h.form
    obtain ⟨A52, cc52, rfl⟩ := hf r5
    obtain ⟨A62, cc62, rfl⟩ := hf r6
    obtain ⟨A52', cc52', rfl⟩ := hf r5'
    obtain ⟨A62', cc62', rfl⟩ := hf r6'
    clear hf r5 r6 r5' r6'
    rw [← hl2] at hc' hyw
    have x0 : wr.cell? ⟨g, og + i * 7, none⟩ = some (.int .i64 k2) := (f.cell (p := ⟨g, og + i * 7, none⟩) hg (fun x => by cases x)).trans (hc 0 _ rfl)
    have x1 : wr.cell? ⟨g, og + i * 7 + 1, none⟩ = some (.int .i64 a2) := (f.cell (p := ⟨g, og + i * 7 + 1, none⟩) hg (fun x => by cases x)).trans (hc 1 _ rfl)
    have x2 : wr.cell? ⟨g, og + i * 7 + 2, none⟩ = some (.string ⟨nm2.toArray⟩) := (f.cell (p := ⟨g, og + i * 7 + 2, none⟩) hg (fun x => by cases x)).trans (hc 2 _ rfl)
    have x3 : wr.cell? ⟨g, og + i * 7 + 3, none⟩ = some (.int .i64 n2) := (f.cell (p := ⟨g, og + i * 7 + 3, none⟩) hg (fun x => by cases x)).trans (hc 3 _ rfl)
    have x4 : wr.cell? ⟨g, og + i * 7 + 4, none⟩ = some (.string ⟨s2.toArray⟩) := (f.cell (p := ⟨g, og + i * 7 + 4, none⟩) hg (fun x => by cases x)).trans (hc 4 _ rfl)
    have x5 : wr.cell? ⟨g, og + i * 7 + 5, none⟩ = some (.slice A52 ls2.length cc52) := (f.cell (p := ⟨g, og + i * 7 + 5, none⟩) hg (fun x => by cases x)).trans (hc 5 _ rfl)
    have x6 : wr.cell? ⟨g, og + i * 7 + 6, none⟩ = some (.slice A62 args2.length cc62) := (f.cell (p := ⟨g, og + i * 7 + 6, none⟩) hg (fun x => by cases x)).trans (hc 6 _ rfl)
    have y0 : wr.cell? ⟨g', og' + i * 7, none⟩ = some (.int .i64 k2) := (f.cell (p := ⟨g', og' + i * 7, none⟩) hg' (fun x => by cases x)).trans (hc' 0 _ rfl)
    have y1 : wr.cell? ⟨g', og' + i * 7 + 1, none⟩ = some (.int .i64 a2') := (f.cell (p := ⟨g', og' + i * 7 + 1, none⟩) hg' (fun x => by cases x)).trans (hc' 1 _ rfl)
    have y2 : wr.cell? ⟨g', og' + i * 7 + 2, none⟩ = some (.string ⟨nm2.toArray⟩) := (f.cell (p := ⟨g', og' + i * 7 + 2, none⟩) hg' (fun x => by cases x)).trans (hc' 2 _ rfl)
    have y3 : wr.cell? ⟨g', og' + i * 7 + 3, none⟩ = some (.int .i64 n2) := (f.cell (p := ⟨g', og' + i * 7 + 3, none⟩) hg' (fun x => by cases x)).trans (hc' 3 _ rfl)
    have y4 : wr.cell? ⟨g', og' + i * 7 + 4, none⟩ = some (.string ⟨s2.toArray⟩) := (f.cell (p := ⟨g', og' + i * 7 + 4, none⟩) hg' (fun x => by cases x)).trans (hc' 4 _ rfl)
    have y5 : wr.cell? ⟨g', og' + i * 7 + 5, none⟩ = some (.slice A52' ls2.length cc52') := (f.cell (p := ⟨g', og' + i * 7 + 5, none⟩) hg' (fun x => by cases x)).trans (hc' 5 _ rfl)
    have y6 : wr.cell? ⟨g', og' + i * 7 + 6, none⟩ = some (.slice A62' args2.length cc62') := (f.cell (p := ⟨g', og' + i * 7 + 6, none⟩) hg' (fun x => by cases x)).trans (hc' 6 _ rfl)
    clear hc hc'
    have hgw : g < wr.heap.size := Nat.lt_of_lt_of_le hg f.size
    have hgw' : g' < wr.heap.size := Nat.lt_of_lt_of_le hg' f.size
    have cP := Lib.hid (IH.out k2 a2 a2' nm2 n2 s2 ls2 args2 args2' A52 A52' cc52 cc52' A62 A62' cc62 cc62' false wr.drew ok ok' (by omega) (by omega) (hxw.keep (Sh.of_fr (Fr.refl [] wr).drew (fun b hb _ => ⟨hb, fun x => by cases x⟩))) (by rw [hl2]; have := hyw.keep (w' := wr.drew) (ok' := ok') (Sh.of_fr (Fr.refl [] wr).drew (fun b hb _ => ⟨hb, fun x => by cases x⟩)); rw [hl2] at this; exact this) ⟨hl2, hh2⟩ (fun h => by have := hpx h; cases this; exact ⟨rfl, rfl⟩))
    clear hxw hyw hpx hzx
    have q1 : (0 : Int) ≤ (i : Int) := by omega
    have q2 : (i : Int) < (args.length : Int) := by omega
    have HH := Lib.hid hh2
    have HL2 := Lib.hid hl2
    clear hh2 hl2
    go_wp2_with fail
    go_region_held3 (fun w' => w'.cell? ⟨T, 6, none⟩ = some (.slice (some ⟨g, og, none⟩) args.length cc6) ∧ w'.cell? ⟨T + 1, 6, none⟩ = some (.slice (some ⟨g', og', none⟩) args.length cc6') ∧ (w'.cell? ⟨g, og + i * 7, none⟩ = some (.int .i64 k2) ∧ w'.cell? ⟨g, og + i * 7 + 1, none⟩ = some (.int .i64 a2) ∧ w'.cell? ⟨g, og + i * 7 + 2, none⟩ = some (.string ⟨nm2.toArray⟩) ∧ w'.cell? ⟨g, og + i * 7 + 3, none⟩ = some (.int .i64 n2) ∧ w'.cell? ⟨g, og + i * 7 + 4, none⟩ = some (.string ⟨s2.toArray⟩) ∧ w'.cell? ⟨g, og + i * 7 + 5, none⟩ = some (.slice A52 ls2.length cc52) ∧ w'.cell? ⟨g, og + i * 7 + 6, none⟩ = some (.slice A62 args2.length cc62)) ∧ (w'.cell? ⟨g', og' + i * 7, none⟩ = some (.int .i64 k2) ∧ w'.cell? ⟨g', og' + i * 7 + 1, none⟩ = some (.int .i64 a2') ∧ w'.cell? ⟨g', og' + i * 7 + 2, none⟩ = some (.string ⟨nm2.toArray⟩) ∧ w'.cell? ⟨g', og' + i * 7 + 3, none⟩ = some (.int .i64 n2) ∧ w'.cell? ⟨g', og' + i * 7 + 4, none⟩ = some (.string ⟨s2.toArray⟩) ∧ w'.cell? ⟨g', og' + i * 7 + 5, none⟩ = some (.slice A52' ls2.length cc52') ∧ w'.cell? ⟨g', og' + i * 7 + 6, none⟩ = some (.slice A62' args2.length cc62'))) (first | go_keep | exact ⟨t6, t6', ⟨x0, x1, x2, x3, x4, x5, x6⟩, y0, y1, y2, y3, y4, y5, y6⟩) (((with_reducible refine cP.out.mono ?_); rintro e w3 ⟨rfl, f3⟩; have t6 := kc (w := wr.drew) f3 t6 hTa; have t6' := kc (w := wr.drew) f3 t6' hTb; have x0 := kc (w := wr.drew) f3 x0 hgw; have y0 := kc (w := wr.drew) f3 y0 hgw'; have x1 := kc (w := wr.drew) f3 x1 hgw; have y1 := kc (w := wr.drew) f3 y1 hgw'; have x2 := kc (w := wr.drew) f3 x2 hgw; have y2 := kc (w := wr.drew) f3 y2 hgw'; have x3 := kc (w := wr.drew) f3 x3 hgw; have y3 := kc (w := wr.drew) f3 y3 hgw'; have x4 := kc (w := wr.drew) f3 x4 hgw; have y4 := kc (w := wr.drew) f3 y4 hgw'; have x5 := kc (w := wr.drew) f3 x5 hgw; have y5 := kc (w := wr.drew) f3 y5 hgw'; have x6 := kc (w := wr.drew) f3 x6 hgw; have y6 := kc (w := wr.drew) f3 y6 hgw'))
    go_wp2_with fail
    go_roundw
    case rel => exact ⟨i + 1, by simp, by omega, fr.trans (((Fr.refl [] wr).drew).trans f3)⟩
    case measure => simp [intOf]; omega
   ·have ei : i = args.length := by omega
    subst ei
    go_wp2_with fail
    go_ret
    exact ⟨rfl, f⟩
theorem samep_all : ∀ N, SMP N
 | 0 => fun _ _ _ _ _ _ _ _ _ _ _ _ _ _ _ _ _ _ _ _ _ h => absurd h (Nat.not_lt_zero _)
 | N + 1 => samep_step N (samep_all N)
end Go.Proofs.YtpjkfeehgookkaaGreatDoor
namespace Go.Proofs.YtpjkfeehgookkaaGreatDoor
open Go.RowKit
attribute [local go_sem ↓] Go.wp_at_zero Go.wp_at_succ
def SME (N : Nat) : Prop := ∀ (k a a' : Int) (nm : List UInt8) (n : Int) (s : List UInt8) (ls : List (List UInt8)) (args args' : List ExprT) (arms arms' : List (PatT × ExprT)) (A5 A5' : Option Addr) (cc5 cc5' : Nat) (A6 A6' : Option Addr) (cc6 cc6' : Nat) (A7 A7' : Option Addr) (cc7 cc7' : Nat) (pl : Bool) (w : World) (ok ok' : Nat → Prop), laE (.mk k a nm n s ls args arms) < N →
  laE (.mk k a nm n s ls args arms) ≤ 1099511627776 → ExprAt w ok (.mk k a nm n s ls args arms) [.int .i64 k, .int .i64 a, .string ⟨nm.toArray⟩, .int .i64 n, .string ⟨s.toArray⟩, .slice A5 ls.length cc5, .slice A6 args.length cc6, .slice A7 arms.length cc7] → ExprAt w ok' (.mk k a' nm n s ls args' arms') [.int .i64 k, .int .i64 a', .string ⟨nm.toArray⟩, .int .i64 n, .string ⟨s.toArray⟩, .slice A5' ls.length cc5', .slice A6' args.length cc6', .slice A7' arms.length cc7'] → SL SameE args args' → SL SameA arms arms' → (pl = true → a = a' ∧ args = args' ∧ arms = arms') →
  Calls Tryz.prog 14 #[.agg #[.int .i64 k, .int .i64 a, .string ⟨nm.toArray⟩, .int .i64 n, .string ⟨s.toArray⟩, .slice A5 ls.length cc5, .slice A6 args.length cc6, .slice A7 arms.length cc7], .agg #[.int .i64 k, .int .i64 a', .string ⟨nm.toArray⟩, .int .i64 n, .string ⟨s.toArray⟩, .slice A5' ls.length cc5', .slice A6' args.length cc6', .slice A7' arms.length cc7'], .bool pl] w fun e w' => e = .returned (.bool true) ∧ Fr [] w w'
set_option maxHeartbeats 16000000 in
set_option maxRecDepth 100000 in
theorem same_true (N : Nat) (ih : SME N) (k a a' : Int) (nm : List UInt8) (n : Int) (s : List UInt8) (ls : List (List UInt8)) (args args' : List ExprT) (arms arms' : List (PatT × ExprT)) (A5 A5' : Option Addr) (cc5 cc5' : Nat) (A6 A6' : Option Addr) (cc6 cc6' : Nat) (A7 A7' : Option Addr) (cc7 cc7' : Nat) (w : World) (ok ok' : Nat → Prop) (hN : laE (.mk k a nm n s ls args arms) < N + 1)
  (hz : laE (.mk k a nm n s ls args arms) ≤ 1099511627776) (hx : ExprAt w ok (.mk k a nm n s ls args arms) [.int .i64 k, .int .i64 a, .string ⟨nm.toArray⟩, .int .i64 n, .string ⟨s.toArray⟩, .slice A5 ls.length cc5, .slice A6 args.length cc6, .slice A7 arms.length cc7]) (hy : ExprAt w ok' (.mk k a' nm n s ls args' arms') [.int .i64 k, .int .i64 a', .string ⟨nm.toArray⟩, .int .i64 n, .string ⟨s.toArray⟩, .slice A5' ls.length cc5', .slice A6' args.length cc6', .slice A7' arms.length cc7']) (hS : SL SameE args args') (hM : SL SameA arms arms') (hp : (true : Bool) = true → a = a' ∧ args = args' ∧ arms = arms') :
  Calls Tryz.prog 14 #[.agg #[.int .i64 k, .int .i64 a, .string ⟨nm.toArray⟩, .int .i64 n, .string ⟨s.toArray⟩, .slice A5 ls.length cc5, .slice A6 args.length cc6, .slice A7 arms.length cc7], .agg #[.int .i64 k, .int .i64 a', .string ⟨nm.toArray⟩, .int .i64 n, .string ⟨s.toArray⟩, .slice A5' ls.length cc5', .slice A6' args.length cc6', .slice A7' arms.length cc7'], .bool true] w fun e w' => e = .returned (.bool true) ∧ Fr [] w w' := by
 cases hx with
 | mk c5 c6 cp ce h5 e5 h6 e6 h7 e7 e8 =>
 cases hy with
 | mk d5 d6 dp de h5' e5' h6' e6' h7' e7' e8' =>
 rw [← hS.1] at h6'
 rw [← hM.1] at h7'
 have hsz : laE (.mk k a nm n s ls args arms) = 1 + ls.length + (laEs args + laAs arms) := by simp [laE]
 rw [hsz] at hN hz
 have hm6 : (args.length : Int) ≤ 1099511627776 := by have := laEs_ge args; omega
 have hm7 : (arms.length : Int) ≤ 1099511627776 := by have := laAs_ge arms; omega
 have hm5 : (ls.length : Int) ≤ 1099511627776 := by omega
 have IH := Lib.hid ih
 have H6 := Lib.hid h6
 have H6' := Lib.hid h6'
 have H7 := Lib.hid h7
 have H7' := Lib.hid h7'
 have E6 : Hid (∀ (i : Nat) (x : ExprT), args[i]? = some x → ExprAt w ok x (c6 i)) := Lib.hid e6
 have E6' : Hid (∀ (i : Nat) (x : ExprT), args'[i]? = some x → ExprAt w ok' x (d6 i)) := Lib.hid e6'
 have E7 : Hid (∀ (i : Nat) (p : PatT) (x : ExprT), arms[i]? = some (p, x) → PatAt w ok p (cp i)) := Lib.hid e7
 have E7' : Hid (∀ (i : Nat) (p : PatT) (x : ExprT), arms'[i]? = some (p, x) → PatAt w ok' p (dp i)) := Lib.hid e7'
 have E8 : Hid (∀ (i : Nat) (p : PatT) (x : ExprT), arms[i]? = some (p, x) → ExprAt w ok x (ce i)) := Lib.hid e8
 have E8' : Hid (∀ (i : Nat) (p : PatT) (x : ExprT), arms'[i]? = some (p, x) → ExprAt w ok' x (de i)) := Lib.hid e8'
 have HS := Lib.hid hS
 have HM := Lib.hid hM
 have HP : Hid ((true : Bool) = true → a = a' ∧ args = args' ∧ arms = arms') := Lib.hid hp
 have cT := fun W (hW : Fr [] w W) => Lib.hid (texts_any ls (by omega) A5 A5' cc5 cc5' W (h5.keep (ok' := ok) (Sh.of_fr hW (fun b hb _ => ⟨hb, fun x => by cases x⟩))) e5 (h5'.keep (ok' := ok') (Sh.of_fr hW (fun b hb _ => ⟨hb, fun x => by cases x⟩))) e5')
 clear ih h5 e5 h6 e6 h7 e7 e8 h5' e5' h6' e6' h7' e7' e8' hS hM hp
 have f0 : Fr [] w ((w.alloc (.cells #[.int .i64 k, .int .i64 a, .string ⟨nm.toArray⟩, .int .i64 n, .string ⟨s.toArray⟩, .slice A5 ls.length cc5, .slice A6 args.length cc6, .slice A7 arms.length cc7] 27)).alloc (.cells #[.int .i64 k, .int .i64 a', .string ⟨nm.toArray⟩, .int .i64 n, .string ⟨s.toArray⟩, .slice A5' ls.length cc5', .slice A6' args.length cc6', .slice A7' arms.length cc7'] 27)) := ((Fr.refl [] w).alloc _).alloc _
 have q3 := heap_old (heap_new w (.cells #[.int .i64 k, .int .i64 a, .string ⟨nm.toArray⟩, .int .i64 n, .string ⟨s.toArray⟩, .slice A5 ls.length cc5, .slice A6 args.length cc6, .slice A7 arms.length cc7] 27)) (.cells #[.int .i64 k, .int .i64 a', .string ⟨nm.toArray⟩, .int .i64 n, .string ⟨s.toArray⟩, .slice A5' ls.length cc5', .slice A6' args.length cc6', .slice A7' arms.length cc7'] 27)
 have q4 := heap_new (w.alloc (.cells #[.int .i64 k, .int .i64 a, .string ⟨nm.toArray⟩, .int .i64 n, .string ⟨s.toArray⟩, .slice A5 ls.length cc5, .slice A6 args.length cc6, .slice A7 arms.length cc7] 27)) (.cells #[.int .i64 k, .int .i64 a', .string ⟨nm.toArray⟩, .int .i64 n, .string ⟨s.toArray⟩, .slice A5' ls.length cc5', .slice A6' args.length cc6', .slice A7' arms.length cc7'] 27)
 have hs1 : (w.alloc (.cells #[.int .i64 k, .int .i64 a, .string ⟨nm.toArray⟩, .int .i64 n, .string ⟨s.toArray⟩, .slice A5 ls.length cc5, .slice A6 args.length cc6, .slice A7 arms.length cc7] 27)).heap.size = w.heap.size + 1 := by simp
 rw [hs1] at q4
 have hs2 : ((w.alloc (.cells #[.int .i64 k, .int .i64 a, .string ⟨nm.toArray⟩, .int .i64 n, .string ⟨s.toArray⟩, .slice A5 ls.length cc5, .slice A6 args.length cc6, .slice A7 arms.length cc7] 27)).alloc (.cells #[.int .i64 k, .int .i64 a', .string ⟨nm.toArray⟩, .int .i64 n, .string ⟨s.toArray⟩, .slice A5' ls.length cc5', .slice A6' args.length cc6', .slice A7' arms.length cc7'] 27)).heap.size = w.heap.size + 2 := by simp
 have HQ3 := Lib.hid q3
 have HQ4 := Lib.hid q4
 clear q3 q4 hs1
 obtain rfl : a = a' := (HP.out rfl).1
 go_enter Tryz.func14, Tryz.ntmps14
 go_wp2_with fail
 refine (cT _ f0).out.mono ?_
 rintro e w1 ⟨rfl, f1⟩
 clear cT
 have f := f0.trans f1
 have q3 := f1.keep HQ3.out (fun x => by cases x)
 have q4 := f1.keep HQ4.out (fun x => by cases x)
 have hT2 : w.heap.size + 2 ≤ w1.heap.size := by have := f1.size; omega
 clear f0 f1 HQ3 HQ4 hs2
 have t6 : w1.cell? ⟨w.heap.size, 6, none⟩ = some (.slice A6 args.length cc6) := cell_of q3 6
 have t6' : w1.cell? ⟨w.heap.size + 1, 6, none⟩ = some (.slice A6' args.length cc6') := cell_of q4 6
 have t7 : w1.cell? ⟨w.heap.size, 7, none⟩ = some (.slice A7 arms.length cc7) := cell_of q3 7
 have t7' : w1.cell? ⟨w.heap.size + 1, 7, none⟩ = some (.slice A7' arms.length cc7') := cell_of q4 7
 have hTa : w.heap.size < w1.heap.size := by omega
 have hTb : w.heap.size + 1 < w1.heap.size := by omega
 go_wp2_with fail
 clear t6 t6' t7 t7' hTa hTb
 go_loopw [7] (fun iv wr => ∃ i : Nat, iv = .int .i64 i ∧ i ≤ args.length ∧ Fr [] w1 wr) (fun iv wr => args.length - (intOf iv).toNat)
 case atStart => exact ⟨0, rfl, by omega, Fr.refl _ _⟩
 case round =>
  obtain ⟨i, rfl, hi, fr⟩ := hrel
  have q3 := fr.keep q3 (fun x => by cases x)
  have q4 := fr.keep q4 (fun x => by cases x)
  have f := f.trans fr
  have hTw : w.heap.size + 2 ≤ wr.heap.size := by have := fr.size; omega
  generalize hT : w.heap.size = T at *
  have t6 : wr.cell? ⟨T, 6, none⟩ = some (.slice A6 args.length cc6) := cell_of q3 6
  have t6' : wr.cell? ⟨T + 1, 6, none⟩ = some (.slice A6' args.length cc6') := cell_of q4 6
  have hTa : T < wr.heap.size := by omega
  have hTb : T + 1 < wr.heap.size := by omega
  by_cases hlt : i < args.length
  ·obtain ⟨g, og, rfl, _, hg, _, _, hc⟩ := H6.out.row hlt
   obtain ⟨g', og', rfl, _, hg', _, _, hc'⟩ := H6'.out.row hlt
   obtain ⟨x, hx⟩ : ∃ x, args[i]? = some x := ⟨args[i], List.getElem?_eq_getElem hlt⟩
   obtain ⟨y, hy⟩ : ∃ y, args'[i]? = some y := ⟨args'[i]'(by rw [← HS.out.1]; exact hlt), List.getElem?_eq_getElem _⟩
   have hxy := HS.out.2 i x y hx hy
   have hpx : (true : Bool) = true → x = y := fun h => by
    have := (HP.out (by first | exact h | trivial | simp)).2.1
    rw [this, hy] at hx
    exact (Option.some.inj hx).symm
   have hxx := E6.out i x hx
   have hyy := E6'.out i y hy
   have hzx := laEs_get hx
   clear hx hy
   generalize c6 i = ci at *
   generalize d6 i = di at *
   have hxw := hxx.keep (w' := wr) (ok' := ok) (Sh.of_fr f (fun b hb _ => ⟨hb, fun x => by cases x⟩))
   have hyw := hyy.keep (w' := wr) (ok' := ok') (Sh.of_fr f (fun b hb _ => ⟨hb, fun x => by cases x⟩))
   cases hxy with
   | @mk k2 a2 a2' nm2 n2 s2 ls2 args2 args2' arms2 arms2' hl2 hh2 hm2 hp2 hq2 =>
   cases hxx with
   | mk _ _ _ _ r52 _ r62 _ r72 _ _ =>
   cases hyy with
   | mk _ _ _ _ r52' _ r62' _ r72' _ _ =>
   have hf : ∀ {v : Value} {n size : Nat} {cs : Nat → List Value} {o : Nat → Prop}, SlAt w o v n size cs → ∃ A c, v = .slice A n c := fun h => h.form
   obtain ⟨A52, cc52, rfl⟩ := hf r52
   obtain ⟨A52', cc52', rfl⟩ := hf r52'
   obtain ⟨A62, cc62, rfl⟩ := hf r62
   obtain ⟨A62', cc62', rfl⟩ := hf r62'
   obtain ⟨A72, cc72, rfl⟩ := hf r72
   obtain ⟨A72', cc72', rfl⟩ := hf r72'
   clear hf r52 r62 r72 r52' r62' r72'
   rw [← hl2, ← hm2] at hc' hyw
   have x0 : wr.cell? ⟨g, og + i * 8, none⟩ = some (.int .i64 k2) := (f.cell (p := ⟨g, og + i * 8, none⟩) hg (fun x => by cases x)).trans (hc 0 _ rfl)
   have x1 : wr.cell? ⟨g, og + i * 8 + 1, none⟩ = some (.int .i64 a2) := (f.cell (p := ⟨g, og + i * 8 + 1, none⟩) hg (fun x => by cases x)).trans (hc 1 _ rfl)
   have x2 : wr.cell? ⟨g, og + i * 8 + 2, none⟩ = some (.string ⟨nm2.toArray⟩) := (f.cell (p := ⟨g, og + i * 8 + 2, none⟩) hg (fun x => by cases x)).trans (hc 2 _ rfl)
   have x3 : wr.cell? ⟨g, og + i * 8 + 3, none⟩ = some (.int .i64 n2) := (f.cell (p := ⟨g, og + i * 8 + 3, none⟩) hg (fun x => by cases x)).trans (hc 3 _ rfl)
   have x4 : wr.cell? ⟨g, og + i * 8 + 4, none⟩ = some (.string ⟨s2.toArray⟩) := (f.cell (p := ⟨g, og + i * 8 + 4, none⟩) hg (fun x => by cases x)).trans (hc 4 _ rfl)
   have x5 : wr.cell? ⟨g, og + i * 8 + 5, none⟩ = some (.slice A52 ls2.length cc52) := (f.cell (p := ⟨g, og + i * 8 + 5, none⟩) hg (fun x => by cases x)).trans (hc 5 _ rfl)
   have x6 : wr.cell? ⟨g, og + i * 8 + 6, none⟩ = some (.slice A62 args2.length cc62) := (f.cell (p := ⟨g, og + i * 8 + 6, none⟩) hg (fun x => by cases x)).trans (hc 6 _ rfl)
   have x7 : wr.cell? ⟨g, og + i * 8 + 7, none⟩ = some (.slice A72 arms2.length cc72) := (f.cell (p := ⟨g, og + i * 8 + 7, none⟩) hg (fun x => by cases x)).trans (hc 7 _ rfl)
   have y0 : wr.cell? ⟨g', og' + i * 8, none⟩ = some (.int .i64 k2) := (f.cell (p := ⟨g', og' + i * 8, none⟩) hg' (fun x => by cases x)).trans (hc' 0 _ rfl)
   have y1 : wr.cell? ⟨g', og' + i * 8 + 1, none⟩ = some (.int .i64 a2') := (f.cell (p := ⟨g', og' + i * 8 + 1, none⟩) hg' (fun x => by cases x)).trans (hc' 1 _ rfl)
   have y2 : wr.cell? ⟨g', og' + i * 8 + 2, none⟩ = some (.string ⟨nm2.toArray⟩) := (f.cell (p := ⟨g', og' + i * 8 + 2, none⟩) hg' (fun x => by cases x)).trans (hc' 2 _ rfl)
   have y3 : wr.cell? ⟨g', og' + i * 8 + 3, none⟩ = some (.int .i64 n2) := (f.cell (p := ⟨g', og' + i * 8 + 3, none⟩) hg' (fun x => by cases x)).trans (hc' 3 _ rfl)
   have y4 : wr.cell? ⟨g', og' + i * 8 + 4, none⟩ = some (.string ⟨s2.toArray⟩) := (f.cell (p := ⟨g', og' + i * 8 + 4, none⟩) hg' (fun x => by cases x)).trans (hc' 4 _ rfl)
   have y5 : wr.cell? ⟨g', og' + i * 8 + 5, none⟩ = some (.slice A52' ls2.length cc52') := (f.cell (p := ⟨g', og' + i * 8 + 5, none⟩) hg' (fun x => by cases x)).trans (hc' 5 _ rfl)
   have y6 : wr.cell? ⟨g', og' + i * 8 + 6, none⟩ = some (.slice A62' args2.length cc62') := (f.cell (p := ⟨g', og' + i * 8 + 6, none⟩) hg' (fun x => by cases x)).trans (hc' 6 _ rfl)
   have y7 : wr.cell? ⟨g', og' + i * 8 + 7, none⟩ = some (.slice A72' arms2.length cc72') := (f.cell (p := ⟨g', og' + i * 8 + 7, none⟩) hg' (fun x => by cases x)).trans (hc' 7 _ rfl)
   clear hc hc'
   have hgw : g < wr.heap.size := Nat.lt_of_lt_of_le hg f.size
   have hgw' : g' < wr.heap.size := Nat.lt_of_lt_of_le hg' f.size
   have cP := fun W (hW : Fr [] wr W) => Lib.hid (IH.out k2 a2 a2' nm2 n2 s2 ls2 args2 args2' arms2 arms2' A52 A52' cc52 cc52' A62 A62' cc62 cc62' A72 A72' cc72 cc72' true W ok ok' (by omega) (by omega) (hxw.keep (Sh.of_fr hW (fun b hb _ => ⟨hb, fun x => by cases x⟩))) (hyw.keep (Sh.of_fr hW (fun b hb _ => ⟨hb, fun x => by cases x⟩))) ⟨hl2, hh2⟩ ⟨hm2, fun i u v hu hv => ⟨hp2 i u.1 v.1 u.2 v.2 hu hv, hq2 i u.1 v.1 u.2 v.2 hu hv⟩⟩ (fun h => by have := hpx h; cases this; exact ⟨rfl, rfl, rfl⟩))
   have cP := cP wr.drew (Fr.refl [] wr).drew
   clear hxw hyw hpx hzx
   have q1 : (0 : Int) ≤ (i : Int) := by omega
   have q2 : (i : Int) < (args.length : Int) := by omega
   clear hh2 hl2 hm2 hp2 hq2
   go_wp2_with fail
   go_region_held3 (fun w' => w'.cell? ⟨T, 6, none⟩ = some (.slice (some ⟨g, og, none⟩) args.length cc6) ∧ w'.cell? ⟨T + 1, 6, none⟩ = some (.slice (some ⟨g', og', none⟩) args.length cc6') ∧ (w'.cell? ⟨g, og + i * 8, none⟩ = some (.int .i64 k2) ∧ w'.cell? ⟨g, og + i * 8 + 1, none⟩ = some (.int .i64 a2) ∧ w'.cell? ⟨g, og + i * 8 + 2, none⟩ = some (.string ⟨nm2.toArray⟩) ∧ w'.cell? ⟨g, og + i * 8 + 3, none⟩ = some (.int .i64 n2) ∧ w'.cell? ⟨g, og + i * 8 + 4, none⟩ = some (.string ⟨s2.toArray⟩) ∧ w'.cell? ⟨g, og + i * 8 + 5, none⟩ = some (.slice A52 ls2.length cc52) ∧ w'.cell? ⟨g, og + i * 8 + 6, none⟩ = some (.slice A62 args2.length cc62) ∧ w'.cell? ⟨g, og + i * 8 + 7, none⟩ = some (.slice A72 arms2.length cc72)) ∧ (w'.cell? ⟨g', og' + i * 8, none⟩ = some (.int .i64 k2) ∧ w'.cell? ⟨g', og' + i * 8 + 1, none⟩ = some (.int .i64 a2') ∧ w'.cell? ⟨g', og' + i * 8 + 2, none⟩ = some (.string ⟨nm2.toArray⟩) ∧ w'.cell? ⟨g', og' + i * 8 + 3, none⟩ = some (.int .i64 n2) ∧ w'.cell? ⟨g', og' + i * 8 + 4, none⟩ = some (.string ⟨s2.toArray⟩) ∧ w'.cell? ⟨g', og' + i * 8 + 5, none⟩ = some (.slice A52' ls2.length cc52') ∧ w'.cell? ⟨g', og' + i * 8 + 6, none⟩ = some (.slice A62' args2.length cc62') ∧ w'.cell? ⟨g', og' + i * 8 + 7, none⟩ = some (.slice A72' arms2.length cc72'))) (first | go_keep | exact ⟨t6, t6', ⟨x0, x1, x2, x3, x4, x5, x6, x7⟩, y0, y1, y2, y3, y4, y5, y6, y7⟩) (((with_reducible refine cP.out.mono ?_); rintro e w3 ⟨rfl, f3⟩; have t6 := kc (w := wr.drew) f3 t6 hTa; have t6' := kc (w := wr.drew) f3 t6' hTb; have x0 := kc (w := wr.drew) f3 x0 hgw; have y0 := kc (w := wr.drew) f3 y0 hgw'; have x1 := kc (w := wr.drew) f3 x1 hgw; have y1 := kc (w := wr.drew) f3 y1 hgw'; have x2 := kc (w := wr.drew) f3 x2 hgw; have y2 := kc (w := wr.drew) f3 y2 hgw'; have x3 := kc (w := wr.drew) f3 x3 hgw; have y3 := kc (w := wr.drew) f3 y3 hgw'; have x4 := kc (w := wr.drew) f3 x4 hgw; have y4 := kc (w := wr.drew) f3 y4 hgw'; have x5 := kc (w := wr.drew) f3 x5 hgw; have y5 := kc (w := wr.drew) f3 y5 hgw'; have x6 := kc (w := wr.drew) f3 x6 hgw; have y6 := kc (w := wr.drew) f3 y6 hgw'; have x7 := kc (w := wr.drew) f3 x7 hgw; have y7 := kc (w := wr.drew) f3 y7 hgw'))
   go_wp2_with fail
   go_roundw
   case rel => exact ⟨i + 1, by simp, by omega, fr.trans (((Fr.refl [] wr).drew).trans f3)⟩
   case measure => simp [intOf]; omega
  ·have ei : i = args.length := by omega
   subst ei
   clear t6 t6'
   have t6 : wr.cell? ⟨T, 7, none⟩ = some (.slice A7 arms.length cc7) := cell_of q3 7
   have t6' : wr.cell? ⟨T + 1, 7, none⟩ = some (.slice A7' arms.length cc7') := cell_of q4 7
   have t6a : wr.cell? ⟨T, 6, none⟩ = some (.slice A6 args.length cc6) := cell_of q3 6
   go_wp2_with fail
   clear t6 t6' t6a
   have hw5 : ∃ w5, w5 = wr := ⟨_, rfl⟩
   obtain ⟨w5, hw5⟩ := hw5
   subst hw5
   go_loopw [8] (fun iv wq => ∃ i : Nat, iv = .int .i64 i ∧ i ≤ arms.length ∧ Fr [] w5 wq) (fun iv wq => arms.length - (intOf iv).toNat)
   case atStart => exact ⟨0, rfl, by omega, Fr.refl _ _⟩
   case round =>
    obtain ⟨i, rfl, hi', fq⟩ := hrel
    have q3 := fq.keep q3 (fun x => by cases x)
    have q4 := fq.keep q4 (fun x => by cases x)
    have f := f.trans fq
    have hTw : T + 2 ≤ wr.heap.size := by have := fq.size; omega
    have t6 : wr.cell? ⟨T, 7, none⟩ = some (.slice A7 arms.length cc7) := cell_of q3 7
    have t6' : wr.cell? ⟨T + 1, 7, none⟩ = some (.slice A7' arms.length cc7') := cell_of q4 7
    clear hTa hTb
    have hTa : T < wr.heap.size := by omega
    have hTb : T + 1 < wr.heap.size := by omega
    by_cases hlt : i < arms.length
    ·obtain ⟨g, og, rfl, _, hg, _, _, hc⟩ := H7.out.row hlt
     obtain ⟨g', og', rfl, _, hg', _, _, hc'⟩ := H7'.out.row hlt
     obtain ⟨p, x, hx⟩ : ∃ p x, arms[i]? = some (p, x) := ⟨(arms[i]).1, (arms[i]).2, List.getElem?_eq_getElem hlt⟩
     obtain ⟨p', y, hy⟩ : ∃ p' y, arms'[i]? = some (p', y) := ⟨(arms'[i]'(by rw [← HM.out.1]; exact hlt)).1, (arms'[i]'(by rw [← HM.out.1]; exact hlt)).2, List.getElem?_eq_getElem _⟩
     have hxy := (HM.out.2 i _ _ hx hy).2
     have hpp := (HM.out.2 i _ _ hx hy).1
     have hpb : (true : Bool) = true → p = p' ∧ x = y := fun h => by
      have := (HP.out (by first | exact h | trivial | simp)).2.2
      rw [this, hy] at hx
      cases hx
      exact ⟨rfl, rfl⟩
     have hxx := E8.out i p x hx
     have hyy := E8'.out i p' y hy
     have hpx2 := E7.out i p x hx
     have hpy2 := E7'.out i p' y hy
     have hzx := laAs_get hx
     clear hx hy
     simp only at hxy hpp hc hc'
     generalize cp i = ci at *
     generalize dp i = di at *
     generalize ce i = cj at *
     generalize de i = dj at *
     have hxw := hxx.keep (w' := wr) (ok' := ok) (Sh.of_fr f (fun b hb _ => ⟨hb, fun x => by cases x⟩))
     have hyw := hyy.keep (w' := wr) (ok' := ok') (Sh.of_fr f (fun b hb _ => ⟨hb, fun x => by cases x⟩))
     have hpw := hpx2.keep (w' := wr) (ok' := ok) (Sh.of_fr f (fun b hb _ => ⟨hb, fun x => by cases x⟩))
     have hpw' := hpy2.keep (w' := wr) (ok' := ok') (Sh.of_fr f (fun b hb _ => ⟨hb, fun x => by cases x⟩))
     cases hpp with
     | @mk k3 a3 a3' nm3 n3 s3 ls3 args3 args3' hl3 hh3 =>
     cases hxy with
     | @mk k2 a2 a2' nm2 n2 s2 ls2 args2 args2' arms2 arms2' hl2 hh2 hm2 hp2 hq2 =>
     cases hpx2 with
     | mk _ _ r53 _ r63 _ =>
     cases hpy2 with
     | mk _ _ r53' _ r63' _ =>
     cases hxx with
     | mk _ _ _ _ r52 _ r62 _ r72 _ _ =>
     cases hyy with
     | mk _ _ _ _ r52' _ r62' _ r72' _ _ =>
     have hf : ∀ {v : Value} {n size : Nat} {cs : Nat → List Value} {o : Nat → Prop}, SlAt w o v n size cs → ∃ A c, v = .slice A n c := fun h => h.form
     obtain ⟨A53, cc53, rfl⟩ := hf r53
     obtain ⟨A53', cc53', rfl⟩ := hf r53'
     obtain ⟨A63, cc63, rfl⟩ := hf r63
     obtain ⟨A63', cc63', rfl⟩ := hf r63'
     obtain ⟨A52, cc52, rfl⟩ := hf r52
     obtain ⟨A52', cc52', rfl⟩ := hf r52'
     obtain ⟨A62, cc62, rfl⟩ := hf r62
     obtain ⟨A62', cc62', rfl⟩ := hf r62'
     obtain ⟨A72, cc72, rfl⟩ := hf r72
     obtain ⟨A72', cc72', rfl⟩ := hf r72'
     clear hf r52 r62 r72 r52' r62' r72' r53 r63 r53' r63'
     rw [← hl2, ← hm2] at hyw
     rw [← hl2, ← hm2, ← hl3] at hc'
     rw [← hl3] at hpw'
     have x0 : wr.cell? ⟨g, og + i * 15, none⟩ = some (.int .i64 k3) := (f.cell (p := ⟨g, og + i * 15, none⟩) hg (fun x => by cases x)).trans (hc 0 _ rfl)
     have x1 : wr.cell? ⟨g, og + i * 15 + 1, none⟩ = some (.int .i64 a3) := (f.cell (p := ⟨g, og + i * 15 + 1, none⟩) hg (fun x => by cases x)).trans (hc 1 _ rfl)
     have x2 : wr.cell? ⟨g, og + i * 15 + 2, none⟩ = some (.string ⟨nm3.toArray⟩) := (f.cell (p := ⟨g, og + i * 15 + 2, none⟩) hg (fun x => by cases x)).trans (hc 2 _ rfl)
     have x3 : wr.cell? ⟨g, og + i * 15 + 3, none⟩ = some (.int .i64 n3) := (f.cell (p := ⟨g, og + i * 15 + 3, none⟩) hg (fun x => by cases x)).trans (hc 3 _ rfl)
     have x4 : wr.cell? ⟨g, og + i * 15 + 4, none⟩ = some (.string ⟨s3.toArray⟩) := (f.cell (p := ⟨g, og + i * 15 + 4, none⟩) hg (fun x => by cases x)).trans (hc 4 _ rfl)
     have x5 : wr.cell? ⟨g, og + i * 15 + 5, none⟩ = some (.slice A53 ls3.length cc53) := (f.cell (p := ⟨g, og + i * 15 + 5, none⟩) hg (fun x => by cases x)).trans (hc 5 _ rfl)
     have x6 : wr.cell? ⟨g, og + i * 15 + 6, none⟩ = some (.slice A63 args3.length cc63) := (f.cell (p := ⟨g, og + i * 15 + 6, none⟩) hg (fun x => by cases x)).trans (hc 6 _ rfl)
     have x7 : wr.cell? ⟨g, og + i * 15 + 7, none⟩ = some (.int .i64 k2) := (f.cell (p := ⟨g, og + i * 15 + 7, none⟩) hg (fun x => by cases x)).trans (hc 7 _ rfl)
     have x8 : wr.cell? ⟨g, og + i * 15 + 8, none⟩ = some (.int .i64 a2) := (f.cell (p := ⟨g, og + i * 15 + 8, none⟩) hg (fun x => by cases x)).trans (hc 8 _ rfl)
     have x9 : wr.cell? ⟨g, og + i * 15 + 9, none⟩ = some (.string ⟨nm2.toArray⟩) := (f.cell (p := ⟨g, og + i * 15 + 9, none⟩) hg (fun x => by cases x)).trans (hc 9 _ rfl)
     have x10 : wr.cell? ⟨g, og + i * 15 + 10, none⟩ = some (.int .i64 n2) := (f.cell (p := ⟨g, og + i * 15 + 10, none⟩) hg (fun x => by cases x)).trans (hc 10 _ rfl)
     have x11 : wr.cell? ⟨g, og + i * 15 + 11, none⟩ = some (.string ⟨s2.toArray⟩) := (f.cell (p := ⟨g, og + i * 15 + 11, none⟩) hg (fun x => by cases x)).trans (hc 11 _ rfl)
     have x12 : wr.cell? ⟨g, og + i * 15 + 12, none⟩ = some (.slice A52 ls2.length cc52) := (f.cell (p := ⟨g, og + i * 15 + 12, none⟩) hg (fun x => by cases x)).trans (hc 12 _ rfl)
     have x13 : wr.cell? ⟨g, og + i * 15 + 13, none⟩ = some (.slice A62 args2.length cc62) := (f.cell (p := ⟨g, og + i * 15 + 13, none⟩) hg (fun x => by cases x)).trans (hc 13 _ rfl)
     have x14 : wr.cell? ⟨g, og + i * 15 + 14, none⟩ = some (.slice A72 arms2.length cc72) := (f.cell (p := ⟨g, og + i * 15 + 14, none⟩) hg (fun x => by cases x)).trans (hc 14 _ rfl)
     have y0 : wr.cell? ⟨g', og' + i * 15, none⟩ = some (.int .i64 k3) := (f.cell (p := ⟨g', og' + i * 15, none⟩) hg' (fun x => by cases x)).trans (hc' 0 _ rfl)
     have y1 : wr.cell? ⟨g', og' + i * 15 + 1, none⟩ = some (.int .i64 a3') := (f.cell (p := ⟨g', og' + i * 15 + 1, none⟩) hg' (fun x => by cases x)).trans (hc' 1 _ rfl)
     have y2 : wr.cell? ⟨g', og' + i * 15 + 2, none⟩ = some (.string ⟨nm3.toArray⟩) := (f.cell (p := ⟨g', og' + i * 15 + 2, none⟩) hg' (fun x => by cases x)).trans (hc' 2 _ rfl)
     have y3 : wr.cell? ⟨g', og' + i * 15 + 3, none⟩ = some (.int .i64 n3) := (f.cell (p := ⟨g', og' + i * 15 + 3, none⟩) hg' (fun x => by cases x)).trans (hc' 3 _ rfl)
     have y4 : wr.cell? ⟨g', og' + i * 15 + 4, none⟩ = some (.string ⟨s3.toArray⟩) := (f.cell (p := ⟨g', og' + i * 15 + 4, none⟩) hg' (fun x => by cases x)).trans (hc' 4 _ rfl)
     have y5 : wr.cell? ⟨g', og' + i * 15 + 5, none⟩ = some (.slice A53' ls3.length cc53') := (f.cell (p := ⟨g', og' + i * 15 + 5, none⟩) hg' (fun x => by cases x)).trans (hc' 5 _ rfl)
     have y6 : wr.cell? ⟨g', og' + i * 15 + 6, none⟩ = some (.slice A63' args3.length cc63') := (f.cell (p := ⟨g', og' + i * 15 + 6, none⟩) hg' (fun x => by cases x)).trans (hc' 6 _ rfl)
     have y7 : wr.cell? ⟨g', og' + i * 15 + 7, none⟩ = some (.int .i64 k2) := (f.cell (p := ⟨g', og' + i * 15 + 7, none⟩) hg' (fun x => by cases x)).trans (hc' 7 _ rfl)
     have y8 : wr.cell? ⟨g', og' + i * 15 + 8, none⟩ = some (.int .i64 a2') := (f.cell (p := ⟨g', og' + i * 15 + 8, none⟩) hg' (fun x => by cases x)).trans (hc' 8 _ rfl)
     have y9 : wr.cell? ⟨g', og' + i * 15 + 9, none⟩ = some (.string ⟨nm2.toArray⟩) := (f.cell (p := ⟨g', og' + i * 15 + 9, none⟩) hg' (fun x => by cases x)).trans (hc' 9 _ rfl)
     have y10 : wr.cell? ⟨g', og' + i * 15 + 10, none⟩ = some (.int .i64 n2) := (f.cell (p := ⟨g', og' + i * 15 + 10, none⟩) hg' (fun x => by cases x)).trans (hc' 10 _ rfl)
     have y11 : wr.cell? ⟨g', og' + i * 15 + 11, none⟩ = some (.string ⟨s2.toArray⟩) := (f.cell (p := ⟨g', og' + i * 15 + 11, none⟩) hg' (fun x => by cases x)).trans (hc' 11 _ rfl)
     have y12 : wr.cell? ⟨g', og' + i * 15 + 12, none⟩ = some (.slice A52' ls2.length cc52') := (f.cell (p := ⟨g', og' + i * 15 + 12, none⟩) hg' (fun x => by cases x)).trans (hc' 12 _ rfl)
     have y13 : wr.cell? ⟨g', og' + i * 15 + 13, none⟩ = some (.slice A62' args2.length cc62') := (f.cell (p := ⟨g', og' + i * 15 + 13, none⟩) hg' (fun x => by cases x)).trans (hc' 13 _ rfl)
     have y14 : wr.cell? ⟨g', og' + i * 15 + 14, none⟩ = some (.slice A72' arms2.length cc72') := (f.cell (p := ⟨g', og' + i * 15 + 14, none⟩) hg' (fun x => by cases x)).trans (hc' 14 _ rfl)
     clear hc hc'
     have hgw : g < wr.heap.size := Nat.lt_of_lt_of_le hg f.size
     have hgw' : g' < wr.heap.size := Nat.lt_of_lt_of_le hg' f.size
     have hpx : (true : Bool) = true → ExprT.mk k2 a2 nm2 n2 s2 ls2 args2 arms2 = ExprT.mk k2 a2' nm2 n2 s2 ls2 args2' arms2' := fun h => (hpb h).2
     have cE := fun W (hW : Fr [] wr W) => Lib.hid (IH.out k2 a2 a2' nm2 n2 s2 ls2 args2 args2' arms2 arms2' A52 A52' cc52 cc52' A62 A62' cc62 cc62' A72 A72' cc72 cc72' true W ok ok' (by omega) (by omega) (hxw.keep (Sh.of_fr hW (fun b hb _ => ⟨hb, fun x => by cases x⟩))) (hyw.keep (Sh.of_fr hW (fun b hb _ => ⟨hb, fun x => by cases x⟩))) ⟨hl2, hh2⟩ ⟨hm2, fun i u v hu hv => ⟨hp2 i u.1 v.1 u.2 v.2 hu hv, hq2 i u.1 v.1 u.2 v.2 hu hv⟩⟩ (fun h => by have := hpx h; cases this; exact ⟨rfl, rfl, rfl⟩))
     have cP := Lib.hid (samep_all (laP (.mk k3 a3 nm3 n3 s3 ls3 args3) + 1) k3 a3 a3' nm3 n3 s3 ls3 args3 args3' A53 A53' cc53 cc53' A63 A63' cc63 cc63' true wr.drew ok ok' (by omega) (by omega) (hpw.keep (Sh.of_fr (Fr.refl [] wr).drew (fun b hb _ => ⟨hb, fun x => by cases x⟩))) (hpw'.keep (Sh.of_fr (Fr.refl [] wr).drew (fun b hb _ => ⟨hb, fun x => by cases x⟩))) ⟨hl3, hh3⟩ (fun h => by have := (hpb h).1; cases this; exact ⟨rfl, rfl⟩))
     clear hxw hyw hpx hzx hpw hpw' hpb
     have q1 : (0 : Int) ≤ (i : Int) := by omega
     have q2 : (i : Int) < (arms.length : Int) := by omega
     clear hh2 hl2 hm2 hp2 hq2 hl3 hh3
     go_wp2_with fail
     go_region_held3 (fun w' => w'.cell? ⟨T, 7, none⟩ = some (.slice (some ⟨g, og, none⟩) arms.length cc7) ∧ w'.cell? ⟨T + 1, 7, none⟩ = some (.slice (some ⟨g', og', none⟩) arms.length cc7') ∧ (w'.cell? ⟨g, og + i * 15, none⟩ = some (.int .i64 k3) ∧ w'.cell? ⟨g, og + i * 15 + 1, none⟩ = some (.int .i64 a3) ∧ w'.cell? ⟨g, og + i * 15 + 2, none⟩ = some (.string ⟨nm3.toArray⟩) ∧ w'.cell? ⟨g, og + i * 15 + 3, none⟩ = some (.int .i64 n3) ∧ w'.cell? ⟨g, og + i * 15 + 4, none⟩ = some (.string ⟨s3.toArray⟩) ∧ w'.cell? ⟨g, og + i * 15 + 5, none⟩ = some (.slice A53 ls3.length cc53) ∧ w'.cell? ⟨g, og + i * 15 + 6, none⟩ = some (.slice A63 args3.length cc63) ∧ w'.cell? ⟨g, og + i * 15 + 7, none⟩ = some (.int .i64 k2) ∧ w'.cell? ⟨g, og + i * 15 + 8, none⟩ = some (.int .i64 a2) ∧ w'.cell? ⟨g, og + i * 15 + 9, none⟩ = some (.string ⟨nm2.toArray⟩) ∧ w'.cell? ⟨g, og + i * 15 + 10, none⟩ = some (.int .i64 n2) ∧ w'.cell? ⟨g, og + i * 15 + 11, none⟩ = some (.string ⟨s2.toArray⟩) ∧ w'.cell? ⟨g, og + i * 15 + 12, none⟩ = some (.slice A52 ls2.length cc52) ∧ w'.cell? ⟨g, og + i * 15 + 13, none⟩ = some (.slice A62 args2.length cc62) ∧ w'.cell? ⟨g, og + i * 15 + 14, none⟩ = some (.slice A72 arms2.length cc72)) ∧ (w'.cell? ⟨g', og' + i * 15, none⟩ = some (.int .i64 k3) ∧ w'.cell? ⟨g', og' + i * 15 + 1, none⟩ = some (.int .i64 a3') ∧ w'.cell? ⟨g', og' + i * 15 + 2, none⟩ = some (.string ⟨nm3.toArray⟩) ∧ w'.cell? ⟨g', og' + i * 15 + 3, none⟩ = some (.int .i64 n3) ∧ w'.cell? ⟨g', og' + i * 15 + 4, none⟩ = some (.string ⟨s3.toArray⟩) ∧ w'.cell? ⟨g', og' + i * 15 + 5, none⟩ = some (.slice A53' ls3.length cc53') ∧ w'.cell? ⟨g', og' + i * 15 + 6, none⟩ = some (.slice A63' args3.length cc63') ∧ w'.cell? ⟨g', og' + i * 15 + 7, none⟩ = some (.int .i64 k2) ∧ w'.cell? ⟨g', og' + i * 15 + 8, none⟩ = some (.int .i64 a2') ∧ w'.cell? ⟨g', og' + i * 15 + 9, none⟩ = some (.string ⟨nm2.toArray⟩) ∧ w'.cell? ⟨g', og' + i * 15 + 10, none⟩ = some (.int .i64 n2) ∧ w'.cell? ⟨g', og' + i * 15 + 11, none⟩ = some (.string ⟨s2.toArray⟩) ∧ w'.cell? ⟨g', og' + i * 15 + 12, none⟩ = some (.slice A52' ls2.length cc52') ∧ w'.cell? ⟨g', og' + i * 15 + 13, none⟩ = some (.slice A62' args2.length cc62') ∧ w'.cell? ⟨g', og' + i * 15 + 14, none⟩ = some (.slice A72' arms2.length cc72'))) (first | go_keep | exact ⟨t6, t6', ⟨x0, x1, x2, x3, x4, x5, x6, x7, x8, x9, x10, x11, x12, x13, x14⟩, y0, y1, y2, y3, y4, y5, y6, y7, y8, y9, y10, y11, y12, y13, y14⟩) ((first | ((with_reducible refine cP.out.mono ?_); rintro e w3 ⟨rfl, f3⟩; have t6 := kc (w := wr.drew) f3 t6 hTa; have t6' := kc (w := wr.drew) f3 t6' hTb; have x0 := kc (w := wr.drew) f3 x0 hgw; have y0 := kc (w := wr.drew) f3 y0 hgw'; have x1 := kc (w := wr.drew) f3 x1 hgw; have y1 := kc (w := wr.drew) f3 y1 hgw'; have x2 := kc (w := wr.drew) f3 x2 hgw; have y2 := kc (w := wr.drew) f3 y2 hgw'; have x3 := kc (w := wr.drew) f3 x3 hgw; have y3 := kc (w := wr.drew) f3 y3 hgw'; have x4 := kc (w := wr.drew) f3 x4 hgw; have y4 := kc (w := wr.drew) f3 y4 hgw'; have x5 := kc (w := wr.drew) f3 x5 hgw; have y5 := kc (w := wr.drew) f3 y5 hgw'; have x6 := kc (w := wr.drew) f3 x6 hgw; have y6 := kc (w := wr.drew) f3 y6 hgw'; have x7 := kc (w := wr.drew) f3 x7 hgw; have y7 := kc (w := wr.drew) f3 y7 hgw'; have x8 := kc (w := wr.drew) f3 x8 hgw; have y8 := kc (w := wr.drew) f3 y8 hgw'; have x9 := kc (w := wr.drew) f3 x9 hgw; have y9 := kc (w := wr.drew) f3 y9 hgw'; have x10 := kc (w := wr.drew) f3 x10 hgw; have y10 := kc (w := wr.drew) f3 y10 hgw'; have x11 := kc (w := wr.drew) f3 x11 hgw; have y11 := kc (w := wr.drew) f3 y11 hgw'; have x12 := kc (w := wr.drew) f3 x12 hgw; have y12 := kc (w := wr.drew) f3 y12 hgw'; have x13 := kc (w := wr.drew) f3 x13 hgw; have y13 := kc (w := wr.drew) f3 y13 hgw'; have x14 := kc (w := wr.drew) f3 x14 hgw; have y14 := kc (w := wr.drew) f3 y14 hgw') | ((with_reducible refine (cE w3 (((Fr.refl [] wr).drew).trans f3)).out.mono ?_); rintro e w4 ⟨rfl, f4⟩; have t6 := kc (w := w3) f4 t6 (Nat.lt_of_lt_of_le hTa f3.size); have t6' := kc (w := w3) f4 t6' (Nat.lt_of_lt_of_le hTb f3.size); have x0 := kc (w := w3) f4 x0 (Nat.lt_of_lt_of_le hgw f3.size); have y0 := kc (w := w3) f4 y0 (Nat.lt_of_lt_of_le hgw' f3.size); have x1 := kc (w := w3) f4 x1 (Nat.lt_of_lt_of_le hgw f3.size); have y1 := kc (w := w3) f4 y1 (Nat.lt_of_lt_of_le hgw' f3.size); have x2 := kc (w := w3) f4 x2 (Nat.lt_of_lt_of_le hgw f3.size); have y2 := kc (w := w3) f4 y2 (Nat.lt_of_lt_of_le hgw' f3.size); have x3 := kc (w := w3) f4 x3 (Nat.lt_of_lt_of_le hgw f3.size); have y3 := kc (w := w3) f4 y3 (Nat.lt_of_lt_of_le hgw' f3.size); have x4 := kc (w := w3) f4 x4 (Nat.lt_of_lt_of_le hgw f3.size); have y4 := kc (w := w3) f4 y4 (Nat.lt_of_lt_of_le hgw' f3.size); have x5 := kc (w := w3) f4 x5 (Nat.lt_of_lt_of_le hgw f3.size); have y5 := kc (w := w3) f4 y5 (Nat.lt_of_lt_of_le hgw' f3.size); have x6 := kc (w := w3) f4 x6 (Nat.lt_of_lt_of_le hgw f3.size); have y6 := kc (w := w3) f4 y6 (Nat.lt_of_lt_of_le hgw' f3.size); have x7 := kc (w := w3) f4 x7 (Nat.lt_of_lt_of_le hgw f3.size); have y7 := kc (w := w3) f4 y7 (Nat.lt_of_lt_of_le hgw' f3.size); have x8 := kc (w := w3) f4 x8 (Nat.lt_of_lt_of_le hgw f3.size); have y8 := kc (w := w3) f4 y8 (Nat.lt_of_lt_of_le hgw' f3.size); have x9 := kc (w := w3) f4 x9 (Nat.lt_of_lt_of_le hgw f3.size); have y9 := kc (w := w3) f4 y9 (Nat.lt_of_lt_of_le hgw' f3.size); have x10 := kc (w := w3) f4 x10 (Nat.lt_of_lt_of_le hgw f3.size); have y10 := kc (w := w3) f4 y10 (Nat.lt_of_lt_of_le hgw' f3.size); have x11 := kc (w := w3) f4 x11 (Nat.lt_of_lt_of_le hgw f3.size); have y11 := kc (w := w3) f4 y11 (Nat.lt_of_lt_of_le hgw' f3.size); have x12 := kc (w := w3) f4 x12 (Nat.lt_of_lt_of_le hgw f3.size); have y12 := kc (w := w3) f4 y12 (Nat.lt_of_lt_of_le hgw' f3.size); have x13 := kc (w := w3) f4 x13 (Nat.lt_of_lt_of_le hgw f3.size); have y13 := kc (w := w3) f4 y13 (Nat.lt_of_lt_of_le hgw' f3.size); have x14 := kc (w := w3) f4 x14 (Nat.lt_of_lt_of_le hgw f3.size); have y14 := kc (w := w3) f4 y14 (Nat.lt_of_lt_of_le hgw' f3.size))))
     go_wp2_with fail
     go_roundw
     case rel => exact ⟨i + 1, by simp, by omega, fq.trans ((((Fr.refl [] wr).drew).trans f3).trans f4)⟩
     case measure => simp [intOf]; omega
    ·have ei : i = arms.length := by omega
     subst ei
     go_wp2_with fail
     go_ret
     exact ⟨rfl, f⟩
set_option maxHeartbeats 16000000 in
set_option maxRecDepth 100000 in
theorem same_false (N : Nat) (ih : SME N) (k a a' : Int) (nm : List UInt8) (n : Int) (s : List UInt8) (ls : List (List UInt8)) (args args' : List ExprT) (arms arms' : List (PatT × ExprT)) (A5 A5' : Option Addr) (cc5 cc5' : Nat) (A6 A6' : Option Addr) (cc6 cc6' : Nat) (A7 A7' : Option Addr) (cc7 cc7' : Nat) (w : World) (ok ok' : Nat → Prop) (hN : laE (.mk k a nm n s ls args arms) < N + 1)
  (hz : laE (.mk k a nm n s ls args arms) ≤ 1099511627776) (hx : ExprAt w ok (.mk k a nm n s ls args arms) [.int .i64 k, .int .i64 a, .string ⟨nm.toArray⟩, .int .i64 n, .string ⟨s.toArray⟩, .slice A5 ls.length cc5, .slice A6 args.length cc6, .slice A7 arms.length cc7]) (hy : ExprAt w ok' (.mk k a' nm n s ls args' arms') [.int .i64 k, .int .i64 a', .string ⟨nm.toArray⟩, .int .i64 n, .string ⟨s.toArray⟩, .slice A5' ls.length cc5', .slice A6' args.length cc6', .slice A7' arms.length cc7']) (hS : SL SameE args args') (hM : SL SameA arms arms') (hp : (false : Bool) = true → a = a' ∧ args = args' ∧ arms = arms') :
  Calls Tryz.prog 14 #[.agg #[.int .i64 k, .int .i64 a, .string ⟨nm.toArray⟩, .int .i64 n, .string ⟨s.toArray⟩, .slice A5 ls.length cc5, .slice A6 args.length cc6, .slice A7 arms.length cc7], .agg #[.int .i64 k, .int .i64 a', .string ⟨nm.toArray⟩, .int .i64 n, .string ⟨s.toArray⟩, .slice A5' ls.length cc5', .slice A6' args.length cc6', .slice A7' arms.length cc7'], .bool false] w fun e w' => e = .returned (.bool true) ∧ Fr [] w w' := by
 cases hx with
 | mk c5 c6 cp ce h5 e5 h6 e6 h7 e7 e8 =>
 cases hy with
 | mk d5 d6 dp de h5' e5' h6' e6' h7' e7' e8' =>
 rw [← hS.1] at h6'
 rw [← hM.1] at h7'
 have hsz : laE (.mk k a nm n s ls args arms) = 1 + ls.length + (laEs args + laAs arms) := by simp [laE]
 rw [hsz] at hN hz
 have hm6 : (args.length : Int) ≤ 1099511627776 := by have := laEs_ge args; omega
 have hm7 : (arms.length : Int) ≤ 1099511627776 := by have := laAs_ge arms; omega
 have hm5 : (ls.length : Int) ≤ 1099511627776 := by omega
 have IH := Lib.hid ih
 have H6 := Lib.hid h6
 have H6' := Lib.hid h6'
 have H7 := Lib.hid h7
 have H7' := Lib.hid h7'
 have E6 : Hid (∀ (i : Nat) (x : ExprT), args[i]? = some x → ExprAt w ok x (c6 i)) := Lib.hid e6
 have E6' : Hid (∀ (i : Nat) (x : ExprT), args'[i]? = some x → ExprAt w ok' x (d6 i)) := Lib.hid e6'
 have E7 : Hid (∀ (i : Nat) (p : PatT) (x : ExprT), arms[i]? = some (p, x) → PatAt w ok p (cp i)) := Lib.hid e7
 have E7' : Hid (∀ (i : Nat) (p : PatT) (x : ExprT), arms'[i]? = some (p, x) → PatAt w ok' p (dp i)) := Lib.hid e7'
 have E8 : Hid (∀ (i : Nat) (p : PatT) (x : ExprT), arms[i]? = some (p, x) → ExprAt w ok x (ce i)) := Lib.hid e8
 have E8' : Hid (∀ (i : Nat) (p : PatT) (x : ExprT), arms'[i]? = some (p, x) → ExprAt w ok' x (de i)) := Lib.hid e8'
 have HS := Lib.hid hS
 have HM := Lib.hid hM
 have HP : Hid ((false : Bool) = true → a = a' ∧ args = args' ∧ arms = arms') := Lib.hid hp
 have cT := fun W (hW : Fr [] w W) => Lib.hid (texts_any ls (by omega) A5 A5' cc5 cc5' W (h5.keep (ok' := ok) (Sh.of_fr hW (fun b hb _ => ⟨hb, fun x => by cases x⟩))) e5 (h5'.keep (ok' := ok') (Sh.of_fr hW (fun b hb _ => ⟨hb, fun x => by cases x⟩))) e5')
 clear ih h5 e5 h6 e6 h7 e7 e8 h5' e5' h6' e6' h7' e7' e8' hS hM hp
 have f0 : Fr [] w ((w.alloc (.cells #[.int .i64 k, .int .i64 a, .string ⟨nm.toArray⟩, .int .i64 n, .string ⟨s.toArray⟩, .slice A5 ls.length cc5, .slice A6 args.length cc6, .slice A7 arms.length cc7] 27)).alloc (.cells #[.int .i64 k, .int .i64 a', .string ⟨nm.toArray⟩, .int .i64 n, .string ⟨s.toArray⟩, .slice A5' ls.length cc5', .slice A6' args.length cc6', .slice A7' arms.length cc7'] 27)) := ((Fr.refl [] w).alloc _).alloc _
 have q3 := heap_old (heap_new w (.cells #[.int .i64 k, .int .i64 a, .string ⟨nm.toArray⟩, .int .i64 n, .string ⟨s.toArray⟩, .slice A5 ls.length cc5, .slice A6 args.length cc6, .slice A7 arms.length cc7] 27)) (.cells #[.int .i64 k, .int .i64 a', .string ⟨nm.toArray⟩, .int .i64 n, .string ⟨s.toArray⟩, .slice A5' ls.length cc5', .slice A6' args.length cc6', .slice A7' arms.length cc7'] 27)
 have q4 := heap_new (w.alloc (.cells #[.int .i64 k, .int .i64 a, .string ⟨nm.toArray⟩, .int .i64 n, .string ⟨s.toArray⟩, .slice A5 ls.length cc5, .slice A6 args.length cc6, .slice A7 arms.length cc7] 27)) (.cells #[.int .i64 k, .int .i64 a', .string ⟨nm.toArray⟩, .int .i64 n, .string ⟨s.toArray⟩, .slice A5' ls.length cc5', .slice A6' args.length cc6', .slice A7' arms.length cc7'] 27)
 have hs1 : (w.alloc (.cells #[.int .i64 k, .int .i64 a, .string ⟨nm.toArray⟩, .int .i64 n, .string ⟨s.toArray⟩, .slice A5 ls.length cc5, .slice A6 args.length cc6, .slice A7 arms.length cc7] 27)).heap.size = w.heap.size + 1 := by simp
 rw [hs1] at q4
 have hs2 : ((w.alloc (.cells #[.int .i64 k, .int .i64 a, .string ⟨nm.toArray⟩, .int .i64 n, .string ⟨s.toArray⟩, .slice A5 ls.length cc5, .slice A6 args.length cc6, .slice A7 arms.length cc7] 27)).alloc (.cells #[.int .i64 k, .int .i64 a', .string ⟨nm.toArray⟩, .int .i64 n, .string ⟨s.toArray⟩, .slice A5' ls.length cc5', .slice A6' args.length cc6', .slice A7' arms.length cc7'] 27)).heap.size = w.heap.size + 2 := by simp
 have HQ3 := Lib.hid q3
 have HQ4 := Lib.hid q4
 clear q3 q4 hs1
 go_enter Tryz.func14, Tryz.ntmps14
 go_wp2_with fail
 refine (cT _ f0).out.mono ?_
 rintro e w1 ⟨rfl, f1⟩
 clear cT
 have f := f0.trans f1
 have q3 := f1.keep HQ3.out (fun x => by cases x)
 have q4 := f1.keep HQ4.out (fun x => by cases x)
 have hT2 : w.heap.size + 2 ≤ w1.heap.size := by have := f1.size; omega
 clear f0 f1 HQ3 HQ4 hs2
 have t6 : w1.cell? ⟨w.heap.size, 6, none⟩ = some (.slice A6 args.length cc6) := cell_of q3 6
 have t6' : w1.cell? ⟨w.heap.size + 1, 6, none⟩ = some (.slice A6' args.length cc6') := cell_of q4 6
 have t7 : w1.cell? ⟨w.heap.size, 7, none⟩ = some (.slice A7 arms.length cc7) := cell_of q3 7
 have t7' : w1.cell? ⟨w.heap.size + 1, 7, none⟩ = some (.slice A7' arms.length cc7') := cell_of q4 7
 have hTa : w.heap.size < w1.heap.size := by omega
 have hTb : w.heap.size + 1 < w1.heap.size := by omega
 go_wp2_with fail
 clear t6 t6' t7 t7' hTa hTb
 go_loopw [7] (fun iv wr => ∃ i : Nat, iv = .int .i64 i ∧ i ≤ args.length ∧ Fr [] w1 wr) (fun iv wr => args.length - (intOf iv).toNat)
 case atStart => exact ⟨0, rfl, by omega, Fr.refl _ _⟩
 case round =>
  obtain ⟨i, rfl, hi, fr⟩ := hrel
  have q3 := fr.keep q3 (fun x => by cases x)
  have q4 := fr.keep q4 (fun x => by cases x)
  have f := f.trans fr
  have hTw : w.heap.size + 2 ≤ wr.heap.size := by have := fr.size; omega
  generalize hT : w.heap.size = T at *
  have t6 : wr.cell? ⟨T, 6, none⟩ = some (.slice A6 args.length cc6) := cell_of q3 6
  have t6' : wr.cell? ⟨T + 1, 6, none⟩ = some (.slice A6' args.length cc6') := cell_of q4 6
  have hTa : T < wr.heap.size := by omega
  have hTb : T + 1 < wr.heap.size := by omega
  by_cases hlt : i < args.length
  ·obtain ⟨g, og, rfl, _, hg, _, _, hc⟩ := H6.out.row hlt
   obtain ⟨g', og', rfl, _, hg', _, _, hc'⟩ := H6'.out.row hlt
   obtain ⟨x, hx⟩ : ∃ x, args[i]? = some x := ⟨args[i], List.getElem?_eq_getElem hlt⟩
   obtain ⟨y, hy⟩ : ∃ y, args'[i]? = some y := ⟨args'[i]'(by rw [← HS.out.1]; exact hlt), List.getElem?_eq_getElem _⟩
   have hxy := HS.out.2 i x y hx hy
   have hpx : (false : Bool) = true → x = y := fun h => by
    have := (HP.out (by first | exact h | trivial | simp)).2.1
    rw [this, hy] at hx
    exact (Option.some.inj hx).symm
   have hxx := E6.out i x hx
   have hyy := E6'.out i y hy
   have hzx := laEs_get hx
   clear hx hy
   generalize c6 i = ci at *
   generalize d6 i = di at *
   have hxw := hxx.keep (w' := wr) (ok' := ok) (Sh.of_fr f (fun b hb _ => ⟨hb, fun x => by cases x⟩))
   have hyw := hyy.keep (w' := wr) (ok' := ok') (Sh.of_fr f (fun b hb _ => ⟨hb, fun x => by cases x⟩))
   cases hxy with
   | @mk k2 a2 a2' nm2 n2 s2 ls2 args2 args2' arms2 arms2' hl2 hh2 hm2 hp2 hq2 =>
   cases hxx with
   | mk _ _ _ _ r52 _ r62 _ r72 _ _ =>
   cases hyy with
   | mk _ _ _ _ r52' _ r62' _ r72' _ _ =>
   have hf : ∀ {v : Value} {n size : Nat} {cs : Nat → List Value} {o : Nat → Prop}, SlAt w o v n size cs → ∃ A c, v = .slice A n c := fun h => h.form
   obtain ⟨A52, cc52, rfl⟩ := hf r52
   obtain ⟨A52', cc52', rfl⟩ := hf r52'
   obtain ⟨A62, cc62, rfl⟩ := hf r62
   obtain ⟨A62', cc62', rfl⟩ := hf r62'
   obtain ⟨A72, cc72, rfl⟩ := hf r72
   obtain ⟨A72', cc72', rfl⟩ := hf r72'
   clear hf r52 r62 r72 r52' r62' r72'
   rw [← hl2, ← hm2] at hc' hyw
   have x0 : wr.cell? ⟨g, og + i * 8, none⟩ = some (.int .i64 k2) := (f.cell (p := ⟨g, og + i * 8, none⟩) hg (fun x => by cases x)).trans (hc 0 _ rfl)
   have x1 : wr.cell? ⟨g, og + i * 8 + 1, none⟩ = some (.int .i64 a2) := (f.cell (p := ⟨g, og + i * 8 + 1, none⟩) hg (fun x => by cases x)).trans (hc 1 _ rfl)
   have x2 : wr.cell? ⟨g, og + i * 8 + 2, none⟩ = some (.string ⟨nm2.toArray⟩) := (f.cell (p := ⟨g, og + i * 8 + 2, none⟩) hg (fun x => by cases x)).trans (hc 2 _ rfl)
   have x3 : wr.cell? ⟨g, og + i * 8 + 3, none⟩ = some (.int .i64 n2) := (f.cell (p := ⟨g, og + i * 8 + 3, none⟩) hg (fun x => by cases x)).trans (hc 3 _ rfl)
   have x4 : wr.cell? ⟨g, og + i * 8 + 4, none⟩ = some (.string ⟨s2.toArray⟩) := (f.cell (p := ⟨g, og + i * 8 + 4, none⟩) hg (fun x => by cases x)).trans (hc 4 _ rfl)
   have x5 : wr.cell? ⟨g, og + i * 8 + 5, none⟩ = some (.slice A52 ls2.length cc52) := (f.cell (p := ⟨g, og + i * 8 + 5, none⟩) hg (fun x => by cases x)).trans (hc 5 _ rfl)
   have x6 : wr.cell? ⟨g, og + i * 8 + 6, none⟩ = some (.slice A62 args2.length cc62) := (f.cell (p := ⟨g, og + i * 8 + 6, none⟩) hg (fun x => by cases x)).trans (hc 6 _ rfl)
   have x7 : wr.cell? ⟨g, og + i * 8 + 7, none⟩ = some (.slice A72 arms2.length cc72) := (f.cell (p := ⟨g, og + i * 8 + 7, none⟩) hg (fun x => by cases x)).trans (hc 7 _ rfl)
   have y0 : wr.cell? ⟨g', og' + i * 8, none⟩ = some (.int .i64 k2) := (f.cell (p := ⟨g', og' + i * 8, none⟩) hg' (fun x => by cases x)).trans (hc' 0 _ rfl)
   have y1 : wr.cell? ⟨g', og' + i * 8 + 1, none⟩ = some (.int .i64 a2') := (f.cell (p := ⟨g', og' + i * 8 + 1, none⟩) hg' (fun x => by cases x)).trans (hc' 1 _ rfl)
   have y2 : wr.cell? ⟨g', og' + i * 8 + 2, none⟩ = some (.string ⟨nm2.toArray⟩) := (f.cell (p := ⟨g', og' + i * 8 + 2, none⟩) hg' (fun x => by cases x)).trans (hc' 2 _ rfl)
   have y3 : wr.cell? ⟨g', og' + i * 8 + 3, none⟩ = some (.int .i64 n2) := (f.cell (p := ⟨g', og' + i * 8 + 3, none⟩) hg' (fun x => by cases x)).trans (hc' 3 _ rfl)
   have y4 : wr.cell? ⟨g', og' + i * 8 + 4, none⟩ = some (.string ⟨s2.toArray⟩) := (f.cell (p := ⟨g', og' + i * 8 + 4, none⟩) hg' (fun x => by cases x)).trans (hc' 4 _ rfl)
   have y5 : wr.cell? ⟨g', og' + i * 8 + 5, none⟩ = some (.slice A52' ls2.length cc52') := (f.cell (p := ⟨g', og' + i * 8 + 5, none⟩) hg' (fun x => by cases x)).trans (hc' 5 _ rfl)
   have y6 : wr.cell? ⟨g', og' + i * 8 + 6, none⟩ = some (.slice A62' args2.length cc62') := (f.cell (p := ⟨g', og' + i * 8 + 6, none⟩) hg' (fun x => by cases x)).trans (hc' 6 _ rfl)
   have y7 : wr.cell? ⟨g', og' + i * 8 + 7, none⟩ = some (.slice A72' arms2.length cc72') := (f.cell (p := ⟨g', og' + i * 8 + 7, none⟩) hg' (fun x => by cases x)).trans (hc' 7 _ rfl)
   clear hc hc'
   have hgw : g < wr.heap.size := Nat.lt_of_lt_of_le hg f.size
   have hgw' : g' < wr.heap.size := Nat.lt_of_lt_of_le hg' f.size
   have cP := fun W (hW : Fr [] wr W) => Lib.hid (IH.out k2 a2 a2' nm2 n2 s2 ls2 args2 args2' arms2 arms2' A52 A52' cc52 cc52' A62 A62' cc62 cc62' A72 A72' cc72 cc72' false W ok ok' (by omega) (by omega) (hxw.keep (Sh.of_fr hW (fun b hb _ => ⟨hb, fun x => by cases x⟩))) (hyw.keep (Sh.of_fr hW (fun b hb _ => ⟨hb, fun x => by cases x⟩))) ⟨hl2, hh2⟩ ⟨hm2, fun i u v hu hv => ⟨hp2 i u.1 v.1 u.2 v.2 hu hv, hq2 i u.1 v.1 u.2 v.2 hu hv⟩⟩ (fun h => by have := hpx h; cases this; exact ⟨rfl, rfl, rfl⟩))
   have cP := cP wr.drew (Fr.refl [] wr).drew
   clear hxw hyw hpx hzx
   have q1 : (0 : Int) ≤ (i : Int) := by omega
   have q2 : (i : Int) < (args.length : Int) := by omega
   clear hh2 hl2 hm2 hp2 hq2
   go_wp2_with fail
   go_region_held3 (fun w' => w'.cell? ⟨T, 6, none⟩ = some (.slice (some ⟨g, og, none⟩) args.length cc6) ∧ w'.cell? ⟨T + 1, 6, none⟩ = some (.slice (some ⟨g', og', none⟩) args.length cc6') ∧ (w'.cell? ⟨g, og + i * 8, none⟩ = some (.int .i64 k2) ∧ w'.cell? ⟨g, og + i * 8 + 1, none⟩ = some (.int .i64 a2) ∧ w'.cell? ⟨g, og + i * 8 + 2, none⟩ = some (.string ⟨nm2.toArray⟩) ∧ w'.cell? ⟨g, og + i * 8 + 3, none⟩ = some (.int .i64 n2) ∧ w'.cell? ⟨g, og + i * 8 + 4, none⟩ = some (.string ⟨s2.toArray⟩) ∧ w'.cell? ⟨g, og + i * 8 + 5, none⟩ = some (.slice A52 ls2.length cc52) ∧ w'.cell? ⟨g, og + i * 8 + 6, none⟩ = some (.slice A62 args2.length cc62) ∧ w'.cell? ⟨g, og + i * 8 + 7, none⟩ = some (.slice A72 arms2.length cc72)) ∧ (w'.cell? ⟨g', og' + i * 8, none⟩ = some (.int .i64 k2) ∧ w'.cell? ⟨g', og' + i * 8 + 1, none⟩ = some (.int .i64 a2') ∧ w'.cell? ⟨g', og' + i * 8 + 2, none⟩ = some (.string ⟨nm2.toArray⟩) ∧ w'.cell? ⟨g', og' + i * 8 + 3, none⟩ = some (.int .i64 n2) ∧ w'.cell? ⟨g', og' + i * 8 + 4, none⟩ = some (.string ⟨s2.toArray⟩) ∧ w'.cell? ⟨g', og' + i * 8 + 5, none⟩ = some (.slice A52' ls2.length cc52') ∧ w'.cell? ⟨g', og' + i * 8 + 6, none⟩ = some (.slice A62' args2.length cc62') ∧ w'.cell? ⟨g', og' + i * 8 + 7, none⟩ = some (.slice A72' arms2.length cc72'))) (first | go_keep | exact ⟨t6, t6', ⟨x0, x1, x2, x3, x4, x5, x6, x7⟩, y0, y1, y2, y3, y4, y5, y6, y7⟩) (((with_reducible refine cP.out.mono ?_); rintro e w3 ⟨rfl, f3⟩; have t6 := kc (w := wr.drew) f3 t6 hTa; have t6' := kc (w := wr.drew) f3 t6' hTb; have x0 := kc (w := wr.drew) f3 x0 hgw; have y0 := kc (w := wr.drew) f3 y0 hgw'; have x1 := kc (w := wr.drew) f3 x1 hgw; have y1 := kc (w := wr.drew) f3 y1 hgw'; have x2 := kc (w := wr.drew) f3 x2 hgw; have y2 := kc (w := wr.drew) f3 y2 hgw'; have x3 := kc (w := wr.drew) f3 x3 hgw; have y3 := kc (w := wr.drew) f3 y3 hgw'; have x4 := kc (w := wr.drew) f3 x4 hgw; have y4 := kc (w := wr.drew) f3 y4 hgw'; have x5 := kc (w := wr.drew) f3 x5 hgw; have y5 := kc (w := wr.drew) f3 y5 hgw'; have x6 := kc (w := wr.drew) f3 x6 hgw; have y6 := kc (w := wr.drew) f3 y6 hgw'; have x7 := kc (w := wr.drew) f3 x7 hgw; have y7 := kc (w := wr.drew) f3 y7 hgw'))
   go_wp2_with fail
   go_roundw
   case rel => exact ⟨i + 1, by simp, by omega, fr.trans (((Fr.refl [] wr).drew).trans f3)⟩
   case measure => simp [intOf]; omega
  ·have ei : i = args.length := by omega
   subst ei
   clear t6 t6'
   have t6 : wr.cell? ⟨T, 7, none⟩ = some (.slice A7 arms.length cc7) := cell_of q3 7
   have t6' : wr.cell? ⟨T + 1, 7, none⟩ = some (.slice A7' arms.length cc7') := cell_of q4 7
   have t6a : wr.cell? ⟨T, 6, none⟩ = some (.slice A6 args.length cc6) := cell_of q3 6
   go_wp2_with fail
   clear t6 t6' t6a
   have hw5 : ∃ w5, w5 = wr := ⟨_, rfl⟩
   obtain ⟨w5, hw5⟩ := hw5
   subst hw5
   go_loopw [8] (fun iv wq => ∃ i : Nat, iv = .int .i64 i ∧ i ≤ arms.length ∧ Fr [] w5 wq) (fun iv wq => arms.length - (intOf iv).toNat)
   case atStart => exact ⟨0, rfl, by omega, Fr.refl _ _⟩
   case round =>
    obtain ⟨i, rfl, hi', fq⟩ := hrel
    have q3 := fq.keep q3 (fun x => by cases x)
    have q4 := fq.keep q4 (fun x => by cases x)
    have f := f.trans fq
    have hTw : T + 2 ≤ wr.heap.size := by have := fq.size; omega
    have t6 : wr.cell? ⟨T, 7, none⟩ = some (.slice A7 arms.length cc7) := cell_of q3 7
    have t6' : wr.cell? ⟨T + 1, 7, none⟩ = some (.slice A7' arms.length cc7') := cell_of q4 7
    clear hTa hTb
    have hTa : T < wr.heap.size := by omega
    have hTb : T + 1 < wr.heap.size := by omega
    by_cases hlt : i < arms.length
    ·obtain ⟨g, og, rfl, _, hg, _, _, hc⟩ := H7.out.row hlt
     obtain ⟨g', og', rfl, _, hg', _, _, hc'⟩ := H7'.out.row hlt
     obtain ⟨p, x, hx⟩ : ∃ p x, arms[i]? = some (p, x) := ⟨(arms[i]).1, (arms[i]).2, List.getElem?_eq_getElem hlt⟩
     obtain ⟨p', y, hy⟩ : ∃ p' y, arms'[i]? = some (p', y) := ⟨(arms'[i]'(by rw [← HM.out.1]; exact hlt)).1, (arms'[i]'(by rw [← HM.out.1]; exact hlt)).2, List.getElem?_eq_getElem _⟩
     have hxy := (HM.out.2 i _ _ hx hy).2
     have hpp := (HM.out.2 i _ _ hx hy).1
     have hpb : (false : Bool) = true → p = p' ∧ x = y := fun h => by
      have := (HP.out (by first | exact h | trivial | simp)).2.2
      rw [this, hy] at hx
      cases hx
      exact ⟨rfl, rfl⟩
     have hxx := E8.out i p x hx
     have hyy := E8'.out i p' y hy
     have hpx2 := E7.out i p x hx
     have hpy2 := E7'.out i p' y hy
     have hzx := laAs_get hx
     clear hx hy
     simp only at hxy hpp hc hc'
     generalize cp i = ci at *
     generalize dp i = di at *
     generalize ce i = cj at *
     generalize de i = dj at *
     have hxw := hxx.keep (w' := wr) (ok' := ok) (Sh.of_fr f (fun b hb _ => ⟨hb, fun x => by cases x⟩))
     have hyw := hyy.keep (w' := wr) (ok' := ok') (Sh.of_fr f (fun b hb _ => ⟨hb, fun x => by cases x⟩))
     have hpw := hpx2.keep (w' := wr) (ok' := ok) (Sh.of_fr f (fun b hb _ => ⟨hb, fun x => by cases x⟩))
     have hpw' := hpy2.keep (w' := wr) (ok' := ok') (Sh.of_fr f (fun b hb _ => ⟨hb, fun x => by cases x⟩))
     cases hpp with
     | @mk k3 a3 a3' nm3 n3 s3 ls3 args3 args3' hl3 hh3 =>
     cases hxy with
     | @mk k2 a2 a2' nm2 n2 s2 ls2 args2 args2' arms2 arms2' hl2 hh2 hm2 hp2 hq2 =>
     cases hpx2 with
     | mk _ _ r53 _ r63 _ =>
     cases hpy2 with
     | mk _ _ r53' _ r63' _ =>
     cases hxx with
     | mk _ _ _ _ r52 _ r62 _ r72 _ _ =>
     cases hyy with
     | mk _ _ _ _ r52' _ r62' _ r72' _ _ =>
     have hf : ∀ {v : Value} {n size : Nat} {cs : Nat → List Value} {o : Nat → Prop}, SlAt w o v n size cs → ∃ A c, v = .slice A n c := fun h => h.form
     obtain ⟨A53, cc53, rfl⟩ := hf r53
     obtain ⟨A53', cc53', rfl⟩ := hf r53'
     obtain ⟨A63, cc63, rfl⟩ := hf r63
     obtain ⟨A63', cc63', rfl⟩ := hf r63'
     obtain ⟨A52, cc52, rfl⟩ := hf r52
     obtain ⟨A52', cc52', rfl⟩ := hf r52'
     obtain ⟨A62, cc62, rfl⟩ := hf r62
     obtain ⟨A62', cc62', rfl⟩ := hf r62'
     obtain ⟨A72, cc72, rfl⟩ := hf r72
     obtain ⟨A72', cc72', rfl⟩ := hf r72'
     clear hf r52 r62 r72 r52' r62' r72' r53 r63 r53' r63'
     rw [← hl2, ← hm2] at hyw
     rw [← hl2, ← hm2, ← hl3] at hc'
     rw [← hl3] at hpw'
     have x0 : wr.cell? ⟨g, og + i * 15, none⟩ = some (.int .i64 k3) := (f.cell (p := ⟨g, og + i * 15, none⟩) hg (fun x => by cases x)).trans (hc 0 _ rfl)
     have x1 : wr.cell? ⟨g, og + i * 15 + 1, none⟩ = some (.int .i64 a3) := (f.cell (p := ⟨g, og + i * 15 + 1, none⟩) hg (fun x => by cases x)).trans (hc 1 _ rfl)
     have x2 : wr.cell? ⟨g, og + i * 15 + 2, none⟩ = some (.string ⟨nm3.toArray⟩) := (f.cell (p := ⟨g, og + i * 15 + 2, none⟩) hg (fun x => by cases x)).trans (hc 2 _ rfl)
     have x3 : wr.cell? ⟨g, og + i * 15 + 3, none⟩ = some (.int .i64 n3) := (f.cell (p := ⟨g, og + i * 15 + 3, none⟩) hg (fun x => by cases x)).trans (hc 3 _ rfl)
     have x4 : wr.cell? ⟨g, og + i * 15 + 4, none⟩ = some (.string ⟨s3.toArray⟩) := (f.cell (p := ⟨g, og + i * 15 + 4, none⟩) hg (fun x => by cases x)).trans (hc 4 _ rfl)
     have x5 : wr.cell? ⟨g, og + i * 15 + 5, none⟩ = some (.slice A53 ls3.length cc53) := (f.cell (p := ⟨g, og + i * 15 + 5, none⟩) hg (fun x => by cases x)).trans (hc 5 _ rfl)
     have x6 : wr.cell? ⟨g, og + i * 15 + 6, none⟩ = some (.slice A63 args3.length cc63) := (f.cell (p := ⟨g, og + i * 15 + 6, none⟩) hg (fun x => by cases x)).trans (hc 6 _ rfl)
     have x7 : wr.cell? ⟨g, og + i * 15 + 7, none⟩ = some (.int .i64 k2) := (f.cell (p := ⟨g, og + i * 15 + 7, none⟩) hg (fun x => by cases x)).trans (hc 7 _ rfl)
     have x8 : wr.cell? ⟨g, og + i * 15 + 8, none⟩ = some (.int .i64 a2) := (f.cell (p := ⟨g, og + i * 15 + 8, none⟩) hg (fun x => by cases x)).trans (hc 8 _ rfl)
     have x9 : wr.cell? ⟨g, og + i * 15 + 9, none⟩ = some (.string ⟨nm2.toArray⟩) := (f.cell (p := ⟨g, og + i * 15 + 9, none⟩) hg (fun x => by cases x)).trans (hc 9 _ rfl)
     have x10 : wr.cell? ⟨g, og + i * 15 + 10, none⟩ = some (.int .i64 n2) := (f.cell (p := ⟨g, og + i * 15 + 10, none⟩) hg (fun x => by cases x)).trans (hc 10 _ rfl)
     have x11 : wr.cell? ⟨g, og + i * 15 + 11, none⟩ = some (.string ⟨s2.toArray⟩) := (f.cell (p := ⟨g, og + i * 15 + 11, none⟩) hg (fun x => by cases x)).trans (hc 11 _ rfl)
     have x12 : wr.cell? ⟨g, og + i * 15 + 12, none⟩ = some (.slice A52 ls2.length cc52) := (f.cell (p := ⟨g, og + i * 15 + 12, none⟩) hg (fun x => by cases x)).trans (hc 12 _ rfl)
     have x13 : wr.cell? ⟨g, og + i * 15 + 13, none⟩ = some (.slice A62 args2.length cc62) := (f.cell (p := ⟨g, og + i * 15 + 13, none⟩) hg (fun x => by cases x)).trans (hc 13 _ rfl)
     have x14 : wr.cell? ⟨g, og + i * 15 + 14, none⟩ = some (.slice A72 arms2.length cc72) := (f.cell (p := ⟨g, og + i * 15 + 14, none⟩) hg (fun x => by cases x)).trans (hc 14 _ rfl)
     have y0 : wr.cell? ⟨g', og' + i * 15, none⟩ = some (.int .i64 k3) := (f.cell (p := ⟨g', og' + i * 15, none⟩) hg' (fun x => by cases x)).trans (hc' 0 _ rfl)
     have y1 : wr.cell? ⟨g', og' + i * 15 + 1, none⟩ = some (.int .i64 a3') := (f.cell (p := ⟨g', og' + i * 15 + 1, none⟩) hg' (fun x => by cases x)).trans (hc' 1 _ rfl)
     have y2 : wr.cell? ⟨g', og' + i * 15 + 2, none⟩ = some (.string ⟨nm3.toArray⟩) := (f.cell (p := ⟨g', og' + i * 15 + 2, none⟩) hg' (fun x => by cases x)).trans (hc' 2 _ rfl)
     have y3 : wr.cell? ⟨g', og' + i * 15 + 3, none⟩ = some (.int .i64 n3) := (f.cell (p := ⟨g', og' + i * 15 + 3, none⟩) hg' (fun x => by cases x)).trans (hc' 3 _ rfl)
     have y4 : wr.cell? ⟨g', og' + i * 15 + 4, none⟩ = some (.string ⟨s3.toArray⟩) := (f.cell (p := ⟨g', og' + i * 15 + 4, none⟩) hg' (fun x => by cases x)).trans (hc' 4 _ rfl)
     have y5 : wr.cell? ⟨g', og' + i * 15 + 5, none⟩ = some (.slice A53' ls3.length cc53') := (f.cell (p := ⟨g', og' + i * 15 + 5, none⟩) hg' (fun x => by cases x)).trans (hc' 5 _ rfl)
     have y6 : wr.cell? ⟨g', og' + i * 15 + 6, none⟩ = some (.slice A63' args3.length cc63') := (f.cell (p := ⟨g', og' + i * 15 + 6, none⟩) hg' (fun x => by cases x)).trans (hc' 6 _ rfl)
     have y7 : wr.cell? ⟨g', og' + i * 15 + 7, none⟩ = some (.int .i64 k2) := (f.cell (p := ⟨g', og' + i * 15 + 7, none⟩) hg' (fun x => by cases x)).trans (hc' 7 _ rfl)
     have y8 : wr.cell? ⟨g', og' + i * 15 + 8, none⟩ = some (.int .i64 a2') := (f.cell (p := ⟨g', og' + i * 15 + 8, none⟩) hg' (fun x => by cases x)).trans (hc' 8 _ rfl)
     have y9 : wr.cell? ⟨g', og' + i * 15 + 9, none⟩ = some (.string ⟨nm2.toArray⟩) := (f.cell (p := ⟨g', og' + i * 15 + 9, none⟩) hg' (fun x => by cases x)).trans (hc' 9 _ rfl)
     have y10 : wr.cell? ⟨g', og' + i * 15 + 10, none⟩ = some (.int .i64 n2) := (f.cell (p := ⟨g', og' + i * 15 + 10, none⟩) hg' (fun x => by cases x)).trans (hc' 10 _ rfl)
     have y11 : wr.cell? ⟨g', og' + i * 15 + 11, none⟩ = some (.string ⟨s2.toArray⟩) := (f.cell (p := ⟨g', og' + i * 15 + 11, none⟩) hg' (fun x => by cases x)).trans (hc' 11 _ rfl)
     have y12 : wr.cell? ⟨g', og' + i * 15 + 12, none⟩ = some (.slice A52' ls2.length cc52') := (f.cell (p := ⟨g', og' + i * 15 + 12, none⟩) hg' (fun x => by cases x)).trans (hc' 12 _ rfl)
     have y13 : wr.cell? ⟨g', og' + i * 15 + 13, none⟩ = some (.slice A62' args2.length cc62') := (f.cell (p := ⟨g', og' + i * 15 + 13, none⟩) hg' (fun x => by cases x)).trans (hc' 13 _ rfl)
     have y14 : wr.cell? ⟨g', og' + i * 15 + 14, none⟩ = some (.slice A72' arms2.length cc72') := (f.cell (p := ⟨g', og' + i * 15 + 14, none⟩) hg' (fun x => by cases x)).trans (hc' 14 _ rfl)
     clear hc hc'
     have hgw : g < wr.heap.size := Nat.lt_of_lt_of_le hg f.size
     have hgw' : g' < wr.heap.size := Nat.lt_of_lt_of_le hg' f.size
     have hpx : (false : Bool) = true → ExprT.mk k2 a2 nm2 n2 s2 ls2 args2 arms2 = ExprT.mk k2 a2' nm2 n2 s2 ls2 args2' arms2' := fun h => (hpb h).2
     have cE := fun W (hW : Fr [] wr W) => Lib.hid (IH.out k2 a2 a2' nm2 n2 s2 ls2 args2 args2' arms2 arms2' A52 A52' cc52 cc52' A62 A62' cc62 cc62' A72 A72' cc72 cc72' false W ok ok' (by omega) (by omega) (hxw.keep (Sh.of_fr hW (fun b hb _ => ⟨hb, fun x => by cases x⟩))) (hyw.keep (Sh.of_fr hW (fun b hb _ => ⟨hb, fun x => by cases x⟩))) ⟨hl2, hh2⟩ ⟨hm2, fun i u v hu hv => ⟨hp2 i u.1 v.1 u.2 v.2 hu hv, hq2 i u.1 v.1 u.2 v.2 hu hv⟩⟩ (fun h => by have := hpx h; cases this; exact ⟨rfl, rfl, rfl⟩))
     have cP := Lib.hid (samep_all (laP (.mk k3 a3 nm3 n3 s3 ls3 args3) + 1) k3 a3 a3' nm3 n3 s3 ls3 args3 args3' A53 A53' cc53 cc53' A63 A63' cc63 cc63' false wr.drew ok ok' (by omega) (by omega) (hpw.keep (Sh.of_fr (Fr.refl [] wr).drew (fun b hb _ => ⟨hb, fun x => by cases x⟩))) (hpw'.keep (Sh.of_fr (Fr.refl [] wr).drew (fun b hb _ => ⟨hb, fun x => by cases x⟩))) ⟨hl3, hh3⟩ (fun h => by have := (hpb h).1; cases this; exact ⟨rfl, rfl⟩))
     clear hxw hyw hpx hzx hpw hpw' hpb
     have q1 : (0 : Int) ≤ (i : Int) := by omega
     have q2 : (i : Int) < (arms.length : Int) := by omega
     clear hh2 hl2 hm2 hp2 hq2 hl3 hh3
     go_wp2_with fail
     go_region_held3 (fun w' => w'.cell? ⟨T, 7, none⟩ = some (.slice (some ⟨g, og, none⟩) arms.length cc7) ∧ w'.cell? ⟨T + 1, 7, none⟩ = some (.slice (some ⟨g', og', none⟩) arms.length cc7') ∧ (w'.cell? ⟨g, og + i * 15, none⟩ = some (.int .i64 k3) ∧ w'.cell? ⟨g, og + i * 15 + 1, none⟩ = some (.int .i64 a3) ∧ w'.cell? ⟨g, og + i * 15 + 2, none⟩ = some (.string ⟨nm3.toArray⟩) ∧ w'.cell? ⟨g, og + i * 15 + 3, none⟩ = some (.int .i64 n3) ∧ w'.cell? ⟨g, og + i * 15 + 4, none⟩ = some (.string ⟨s3.toArray⟩) ∧ w'.cell? ⟨g, og + i * 15 + 5, none⟩ = some (.slice A53 ls3.length cc53) ∧ w'.cell? ⟨g, og + i * 15 + 6, none⟩ = some (.slice A63 args3.length cc63) ∧ w'.cell? ⟨g, og + i * 15 + 7, none⟩ = some (.int .i64 k2) ∧ w'.cell? ⟨g, og + i * 15 + 8, none⟩ = some (.int .i64 a2) ∧ w'.cell? ⟨g, og + i * 15 + 9, none⟩ = some (.string ⟨nm2.toArray⟩) ∧ w'.cell? ⟨g, og + i * 15 + 10, none⟩ = some (.int .i64 n2) ∧ w'.cell? ⟨g, og + i * 15 + 11, none⟩ = some (.string ⟨s2.toArray⟩) ∧ w'.cell? ⟨g, og + i * 15 + 12, none⟩ = some (.slice A52 ls2.length cc52) ∧ w'.cell? ⟨g, og + i * 15 + 13, none⟩ = some (.slice A62 args2.length cc62) ∧ w'.cell? ⟨g, og + i * 15 + 14, none⟩ = some (.slice A72 arms2.length cc72)) ∧ (w'.cell? ⟨g', og' + i * 15, none⟩ = some (.int .i64 k3) ∧ w'.cell? ⟨g', og' + i * 15 + 1, none⟩ = some (.int .i64 a3') ∧ w'.cell? ⟨g', og' + i * 15 + 2, none⟩ = some (.string ⟨nm3.toArray⟩) ∧ w'.cell? ⟨g', og' + i * 15 + 3, none⟩ = some (.int .i64 n3) ∧ w'.cell? ⟨g', og' + i * 15 + 4, none⟩ = some (.string ⟨s3.toArray⟩) ∧ w'.cell? ⟨g', og' + i * 15 + 5, none⟩ = some (.slice A53' ls3.length cc53') ∧ w'.cell? ⟨g', og' + i * 15 + 6, none⟩ = some (.slice A63' args3.length cc63') ∧ w'.cell? ⟨g', og' + i * 15 + 7, none⟩ = some (.int .i64 k2) ∧ w'.cell? ⟨g', og' + i * 15 + 8, none⟩ = some (.int .i64 a2') ∧ w'.cell? ⟨g', og' + i * 15 + 9, none⟩ = some (.string ⟨nm2.toArray⟩) ∧ w'.cell? ⟨g', og' + i * 15 + 10, none⟩ = some (.int .i64 n2) ∧ w'.cell? ⟨g', og' + i * 15 + 11, none⟩ = some (.string ⟨s2.toArray⟩) ∧ w'.cell? ⟨g', og' + i * 15 + 12, none⟩ = some (.slice A52' ls2.length cc52') ∧ w'.cell? ⟨g', og' + i * 15 + 13, none⟩ = some (.slice A62' args2.length cc62') ∧ w'.cell? ⟨g', og' + i * 15 + 14, none⟩ = some (.slice A72' arms2.length cc72'))) (first | go_keep | exact ⟨t6, t6', ⟨x0, x1, x2, x3, x4, x5, x6, x7, x8, x9, x10, x11, x12, x13, x14⟩, y0, y1, y2, y3, y4, y5, y6, y7, y8, y9, y10, y11, y12, y13, y14⟩) ((first | ((with_reducible refine cP.out.mono ?_); rintro e w3 ⟨rfl, f3⟩; have t6 := kc (w := wr.drew) f3 t6 hTa; have t6' := kc (w := wr.drew) f3 t6' hTb; have x0 := kc (w := wr.drew) f3 x0 hgw; have y0 := kc (w := wr.drew) f3 y0 hgw'; have x1 := kc (w := wr.drew) f3 x1 hgw; have y1 := kc (w := wr.drew) f3 y1 hgw'; have x2 := kc (w := wr.drew) f3 x2 hgw; have y2 := kc (w := wr.drew) f3 y2 hgw'; have x3 := kc (w := wr.drew) f3 x3 hgw; have y3 := kc (w := wr.drew) f3 y3 hgw'; have x4 := kc (w := wr.drew) f3 x4 hgw; have y4 := kc (w := wr.drew) f3 y4 hgw'; have x5 := kc (w := wr.drew) f3 x5 hgw; have y5 := kc (w := wr.drew) f3 y5 hgw'; have x6 := kc (w := wr.drew) f3 x6 hgw; have y6 := kc (w := wr.drew) f3 y6 hgw'; have x7 := kc (w := wr.drew) f3 x7 hgw; have y7 := kc (w := wr.drew) f3 y7 hgw'; have x8 := kc (w := wr.drew) f3 x8 hgw; have y8 := kc (w := wr.drew) f3 y8 hgw'; have x9 := kc (w := wr.drew) f3 x9 hgw; have y9 := kc (w := wr.drew) f3 y9 hgw'; have x10 := kc (w := wr.drew) f3 x10 hgw; have y10 := kc (w := wr.drew) f3 y10 hgw'; have x11 := kc (w := wr.drew) f3 x11 hgw; have y11 := kc (w := wr.drew) f3 y11 hgw'; have x12 := kc (w := wr.drew) f3 x12 hgw; have y12 := kc (w := wr.drew) f3 y12 hgw'; have x13 := kc (w := wr.drew) f3 x13 hgw; have y13 := kc (w := wr.drew) f3 y13 hgw'; have x14 := kc (w := wr.drew) f3 x14 hgw; have y14 := kc (w := wr.drew) f3 y14 hgw') | ((with_reducible refine (cE w3 (((Fr.refl [] wr).drew).trans f3)).out.mono ?_); rintro e w4 ⟨rfl, f4⟩; have t6 := kc (w := w3) f4 t6 (Nat.lt_of_lt_of_le hTa f3.size); have t6' := kc (w := w3) f4 t6' (Nat.lt_of_lt_of_le hTb f3.size); have x0 := kc (w := w3) f4 x0 (Nat.lt_of_lt_of_le hgw f3.size); have y0 := kc (w := w3) f4 y0 (Nat.lt_of_lt_of_le hgw' f3.size); have x1 := kc (w := w3) f4 x1 (Nat.lt_of_lt_of_le hgw f3.size); have y1 := kc (w := w3) f4 y1 (Nat.lt_of_lt_of_le hgw' f3.size); have x2 := kc (w := w3) f4 x2 (Nat.lt_of_lt_of_le hgw f3.size); have y2 := kc (w := w3) f4 y2 (Nat.lt_of_lt_of_le hgw' f3.size); have x3 := kc (w := w3) f4 x3 (Nat.lt_of_lt_of_le hgw f3.size); have y3 := kc (w := w3) f4 y3 (Nat.lt_of_lt_of_le hgw' f3.size); have x4 := kc (w := w3) f4 x4 (Nat.lt_of_lt_of_le hgw f3.size); have y4 := kc (w := w3) f4 y4 (Nat.lt_of_lt_of_le hgw' f3.size); have x5 := kc (w := w3) f4 x5 (Nat.lt_of_lt_of_le hgw f3.size); have y5 := kc (w := w3) f4 y5 (Nat.lt_of_lt_of_le hgw' f3.size); have x6 := kc (w := w3) f4 x6 (Nat.lt_of_lt_of_le hgw f3.size); have y6 := kc (w := w3) f4 y6 (Nat.lt_of_lt_of_le hgw' f3.size); have x7 := kc (w := w3) f4 x7 (Nat.lt_of_lt_of_le hgw f3.size); have y7 := kc (w := w3) f4 y7 (Nat.lt_of_lt_of_le hgw' f3.size); have x8 := kc (w := w3) f4 x8 (Nat.lt_of_lt_of_le hgw f3.size); have y8 := kc (w := w3) f4 y8 (Nat.lt_of_lt_of_le hgw' f3.size); have x9 := kc (w := w3) f4 x9 (Nat.lt_of_lt_of_le hgw f3.size); have y9 := kc (w := w3) f4 y9 (Nat.lt_of_lt_of_le hgw' f3.size); have x10 := kc (w := w3) f4 x10 (Nat.lt_of_lt_of_le hgw f3.size); have y10 := kc (w := w3) f4 y10 (Nat.lt_of_lt_of_le hgw' f3.size); have x11 := kc (w := w3) f4 x11 (Nat.lt_of_lt_of_le hgw f3.size); have y11 := kc (w := w3) f4 y11 (Nat.lt_of_lt_of_le hgw' f3.size); have x12 := kc (w := w3) f4 x12 (Nat.lt_of_lt_of_le hgw f3.size); have y12 := kc (w := w3) f4 y12 (Nat.lt_of_lt_of_le hgw' f3.size); have x13 := kc (w := w3) f4 x13 (Nat.lt_of_lt_of_le hgw f3.size); have y13 := kc (w := w3) f4 y13 (Nat.lt_of_lt_of_le hgw' f3.size); have x14 := kc (w := w3) f4 x14 (Nat.lt_of_lt_of_le hgw f3.size); have y14 := kc (w := w3) f4 y14 (Nat.lt_of_lt_of_le hgw' f3.size))))
     go_wp2_with fail
     go_roundw
     case rel => exact ⟨i + 1, by simp, by omega, fq.trans ((((Fr.refl [] wr).drew).trans f3).trans f4)⟩
     case measure => simp [intOf]; omega
    ·have ei : i = arms.length := by omega
     subst ei
     go_wp2_with fail
     go_ret
     exact ⟨rfl, f⟩
theorem same_all : ∀ N, SME N
 | 0 => fun _ _ _ _ _ _ _ _ _ _ _ _ _ _ _ _ _ _ _ _ _ _ _ _ _ _ _ h => absurd h (Nat.not_lt_zero _)
 | N + 1 => fun k a a' nm n s ls args args' arms arms' A5 A5' cc5 cc5' A6 A6' cc6 cc6' A7 A7' cc7 cc7' pl w ok ok' hN hz hx hy hS hM hp => by
  cases pl with
  | true => exact same_true N (same_all N) k a a' nm n s ls args args' arms arms' A5 A5' cc5 cc5' A6 A6' cc6 cc6' A7 A7' cc7 cc7' w ok ok' hN hz hx hy hS hM hp
  | false => exact same_false N (same_all N) k a a' nm n s ls args args' arms arms' A5 A5' cc5 cc5' A6 A6' cc6 cc6' A7 A7' cc7 cc7' w ok ok' hN hz hx hy hS hM hp
end Go.Proofs.YtpjkfeehgookkaaGreatDoor
namespace Go.Proofs.YtpjkfeehgookkaaGreatDoor
open Go.RowKit
theorem partsPs_same : ∀ (l l' : List PatT) (d : Nat), l.length = l'.length → (∀ (i : Nat) (x y : PatT), l[i]? = some x → l'[i]? = some y → ∀ d, (partsP x d).map Prod.snd = (partsP y d).map Prod.snd) → (partsPs l d).map Prod.snd = (partsPs l' d).map Prod.snd
 | [], [], d, _, _ => rfl
 | [], _ :: _, d, h, _ => by simp at h
 | _ :: _, [], d, h, _ => by simp at h
 | x :: l, y :: l', d, hl, h => by
  rw [partsPs, partsPs, List.map_append, List.map_append, h 0 x y rfl rfl d, partsPs_same l l' d (by simpa using hl) (fun i x y hx hy => h (i + 1) x y (by simpa using hx) (by simpa using hy))]
theorem partsEs_same : ∀ (l l' : List ExprT) (d : Nat), l.length = l'.length → (∀ (i : Nat) (x y : ExprT), l[i]? = some x → l'[i]? = some y → ∀ d, (partsE x d).map Prod.snd = (partsE y d).map Prod.snd) → (partsEs l d).map Prod.snd = (partsEs l' d).map Prod.snd
 | [], [], d, _, _ => rfl
 | [], _ :: _, d, h, _ => by simp at h
 | _ :: _, [], d, h, _ => by simp at h
 | x :: l, y :: l', d, hl, h => by
  rw [partsEs, partsEs, List.map_append, List.map_append, h 0 x y rfl rfl d, partsEs_same l l' d (by simpa using hl) (fun i x y hx hy => h (i + 1) x y (by simpa using hx) (by simpa using hy))]
theorem partsAs_same : ∀ (l l' : List (PatT × ExprT)) (d : Nat), l.length = l'.length → (∀ (i : Nat) (p p' : PatT) (x y : ExprT), l[i]? = some (p, x) → l'[i]? = some (p', y) → ∀ d, (partsP p d).map Prod.snd = (partsP p' d).map Prod.snd) →
  (∀ (i : Nat) (p p' : PatT) (x y : ExprT), l[i]? = some (p, x) → l'[i]? = some (p', y) → ∀ d, (partsE x d).map Prod.snd = (partsE y d).map Prod.snd) → (partsAs l d).map Prod.snd = (partsAs l' d).map Prod.snd
 | [], [], d, _, _, _ => rfl
 | [], _ :: _, d, h, _, _ => by simp at h
 | _ :: _, [], d, h, _, _ => by simp at h
 | (p, x) :: l, (p', y) :: l', d, hl, hp, h => by
  rw [partsAs, partsAs, List.map_append, List.map_append, partsAs_same l l' d (by simpa using hl) (fun i p p' x y hx hy => hp (i + 1) p p' x y (by simpa using hx) (by simpa using hy)) (fun i p p' x y hx hy => h (i + 1) p p' x y (by simpa using hx) (by simpa using hy)),
   partsA, partsA, List.map_append, List.map_append, hp 0 p p' x y rfl rfl d, h 0 p p' x y rfl rfl d]
theorem SameP.parts {x y : PatT} (h : SameP x y) : ∀ d, (partsP x d).map Prod.snd = (partsP y d).map Prod.snd := by
 induction h with
 | mk hl h ih => intro d; rw [partsP_mk, partsP_mk, List.map_cons, List.map_cons, partsPs_same _ _ (d + 1) hl ih]
theorem SameE.parts {x y : ExprT} (h : SameE x y) : ∀ d, (partsE x d).map Prod.snd = (partsE y d).map Prod.snd := by
 induction h with
 | mk hl h hl2 hp hx ih ih2 =>
  intro d
  rw [partsE_mk, partsE_mk, List.map_cons, List.map_cons, List.map_append, List.map_append, partsEs_same _ _ (d + 1) hl ih, partsAs_same _ _ (d + 1) hl2 (fun i p p' x y h1 h2 => (hp i p p' x y h1 h2).parts) ih2]
theorem SameE.sz {x y : ExprT} (h : SameE x y) : szE y = szE x := by
 have := congrArg List.length (h.parts 1)
 rw [List.length_map, List.length_map, partsE_len, partsE_len] at this
 exact this.symm
theorem SameE.deep {x y : ExprT} (h : SameE x y) (m : Int) : deepOf m x = none ↔ deepOf m y = none := by
 have key : ∀ x, deepOf m x = none ↔ ∀ d ∈ (partsE x 1).map Prod.snd, ¬ m < (d : Int) := fun x => by
  unfold deepOf
  rw [List.find?_eq_none]
  simp
  exact ⟨fun h d a => h a d, fun h a d => h d a⟩
 rw [key, key, h.parts 1]
theorem same_zero : SameE .zero .zero := sEl
theorem pr_same {s s2 : List UInt8} {ts us : List Tok} (hl : lexOf s = .ok ts) (hl2 : lexOf s2 = .ok us) (hst : us.map stripT = ts.map stripT) {x y : ExprT} {er p er2 p2 : Int} (h : PR s x er p) (h2 : PR s2 y er2 p2) : er2 = er ∧ SameE x y := by
 have hT : ∀ (j : Nat) (q : Int) (a : Nat) (tx : List UInt8) (n : Int), ts[j]? = some ⟨q, a, tx, n⟩ → (∃ a', us[j + 0]? = some ⟨q, a', tx, n⟩) ∨ (False ∧ q = 0 ∧ ∃ a' n', us[j + 0]? = some ⟨7, a', [41], n'⟩) := fun j q a tx n ht => by
  have := congrArg (fun l : List (Int × List UInt8 × Int) => l[j]?) hst
  simp only [List.getElem?_map, ht, Option.map_some] at this
  cases hu : us[j]? with
  | none => rw [hu] at this; cases this
  | some u =>
   rw [hu] at this
   obtain ⟨q', a', tx', n'⟩ := u
   simp only [stripT, Option.map_some, Option.some.injEq, Prod.mk.injEq] at this
   obtain ⟨rfl, rfl, rfl⟩ := this
   exact .inl ⟨a', rfl⟩
 have hE := endsT_of (endOk_of hl)
 have hE2 := endsT_of (endOk_of hl2)
 have key : ∀ {x : ExprT} {st' : St} {t : Tok}, Run ts (body .seq) ⟨0, true⟩ (.e x) st' → ts[st'.i]? = some t → ∀ {y : ExprT} {st2 : St} {t2 : Tok}, Run us (body .seq) ⟨0, true⟩ (.e y) st2 → us[st2.i]? = some t2 → SameE x y ∧ st2.ok = st'.ok ∧ t2.k = t.k := fun {x st' t} hr ht {y st2 t2} hr2 ht2 => by
  obtain ⟨r2, hR, hr3⟩ := hr.sim hE hE2 hT (crE .seq) (fun h => h.elim)
  obtain ⟨e1, e2⟩ := hr3.det hr2
  subst e1 e2
  cases hR with
  | e hS =>
   obtain ⟨q, a, tx, n⟩ := t
   rcases hT _ _ _ _ _ ht with ⟨a', h'⟩ | ⟨h', _⟩
   ·rw [show us[st'.i + 0]? = some t2 from ht2] at h'
    cases h'
    exact ⟨hS, rfl, rfl⟩
   ·exact h'.elim
 have bad : ∀ {ok : Bool} {k : Int}, (ok = false ∨ k ≠ 0) → ok = true → k = 0 → False := fun h h1 h2 => h.elim (fun h => by rw [h] at h1; cases h1) (fun h => h h2)
 cases h with
 | lexErr h => rw [hl] at h; cases h
 | syn hl' hr ht hb =>
  rw [hl] at hl'; cases hl'
  cases h2 with
  | lexErr h => rw [hl2] at h; cases h
  | syn hl2' hr2 ht2 hb2 => exact ⟨rfl, same_zero⟩
  | many hl2' hr2 ht2 hok hend hm => rw [hl2] at hl2'; cases hl2'; obtain ⟨_, e1, e2⟩ := key hr ht hr2 ht2; rw [e1] at hok; rw [e2] at hend; exact (bad hb hok hend).elim
  | deep hl2' hr2 ht2 hok hend hm => rw [hl2] at hl2'; cases hl2'; obtain ⟨_, e1, e2⟩ := key hr ht hr2 ht2; rw [e1] at hok; rw [e2] at hend; exact (bad hb hok hend).elim
  | ok hl2' hr2 ht2 hok hend hm => rw [hl2] at hl2'; cases hl2'; obtain ⟨_, e1, e2⟩ := key hr ht hr2 ht2; rw [e1] at hok; rw [e2] at hend; exact (bad hb hok hend).elim
 | many hl' hr ht hok hend hm =>
  rw [hl] at hl'; cases hl'
  cases h2 with
  | lexErr h => rw [hl2] at h; cases h
  | syn hl2' hr2 ht2 hb2 => rw [hl2] at hl2'; cases hl2'; obtain ⟨_, e1, e2⟩ := key hr ht hr2 ht2; rw [e1, e2] at hb2; exact (bad hb2 hok hend).elim
  | many hl2' hr2 ht2 hok2 hend2 hm2 => exact ⟨rfl, same_zero⟩
  | deep hl2' hr2 ht2 hok2 hend2 hm2 => rw [hl2] at hl2'; cases hl2'; obtain ⟨e0, e1, e2⟩ := key hr ht hr2 ht2; rw [e0.sz] at hm2; omega
  | ok hl2' hr2 ht2 hok2 hend2 hm2 => rw [hl2] at hl2'; cases hl2'; obtain ⟨e0, e1, e2⟩ := key hr ht hr2 ht2; rw [e0.sz] at hm2; omega
 | deep hl' hr ht hok hend hm hd =>
  rw [hl] at hl'; cases hl'
  cases h2 with
  | lexErr h => rw [hl2] at h; cases h
  | syn hl2' hr2 ht2 hb2 => rw [hl2] at hl2'; cases hl2'; obtain ⟨_, e1, e2⟩ := key hr ht hr2 ht2; rw [e1, e2] at hb2; exact (bad hb2 hok hend).elim
  | many hl2' hr2 ht2 hok2 hend2 hm2 => rw [hl2] at hl2'; cases hl2'; obtain ⟨e0, e1, e2⟩ := key hr ht hr2 ht2; rw [e0.sz] at hm2; omega
  | deep hl2' hr2 ht2 hok2 hend2 hm2 => exact ⟨rfl, same_zero⟩
  | ok hl2' hr2 ht2 hok2 hend2 hm2 hd2 => rw [hl2] at hl2'; cases hl2'; obtain ⟨e0, e1, e2⟩ := key hr ht hr2 ht2; rw [← e0.deep, hd] at hd2; cases hd2
 | ok hl' hr ht hok hend hm hd =>
  rw [hl] at hl'; cases hl'
  cases h2 with
  | lexErr h => rw [hl2] at h; cases h
  | syn hl2' hr2 ht2 hb2 => rw [hl2] at hl2'; cases hl2'; obtain ⟨_, e1, e2⟩ := key hr ht hr2 ht2; rw [e1, e2] at hb2; exact (bad hb2 hok hend).elim
  | many hl2' hr2 ht2 hok2 hend2 hm2 => rw [hl2] at hl2'; cases hl2'; obtain ⟨e0, e1, e2⟩ := key hr ht hr2 ht2; rw [e0.sz] at hm2; omega
  | deep hl2' hr2 ht2 hok2 hend2 hm2 hd2 => rw [hl2] at hl2'; cases hl2'; obtain ⟨e0, e1, e2⟩ := key hr ht hr2 ht2; rw [e0.deep, hd2] at hd; cases hd
  | ok hl2' hr2 ht2 hok2 hend2 hm2 hd2 => rw [hl2] at hl2'; cases hl2'; exact ⟨rfl, (key hr ht hr2 ht2).1⟩
def backB (ts : List Tok) : List UInt8 := ts.flatMap fun t => tokText t.k t.text t.n ++ [32, 10]
theorem backB_cons (t : Tok) (ts : List Tok) : backB (t :: ts) = tokText t.k t.text t.n ++ 32 :: 10 :: backB ts := by simp [backB]
theorem backB_app (ts us : List Tok) : backB (ts ++ us) = backB ts ++ backB us := by simp [backB]
theorem good_head {y : Tok} (h : GoodT y) : ∃ c r, tokText y.k y.text y.n = c :: r ∧ blankB c = false := by
 obtain ⟨_, _, h1, hg'⟩ := h
 have ht := hg' [32] (.inr ⟨32, _, rfl, rfl⟩)
 generalize tokText y.k y.text y.n = T at *
 obtain ⟨c, r, rfl⟩ : ∃ c r, T = c :: r := by cases T with | nil => simp at h1 | cons c r => exact ⟨c, r, rfl⟩
 refine ⟨c, r, rfl, ?_⟩
 rw [Bool.eq_false_iff]
 intro hb
 rw [List.cons_append, tok] at ht
 rcases blank_cases hb with rfl | rfl
 ·rw [if_neg (by decide), if_neg (by decide), if_neg (fun x => absurd x.1 (by decide)), if_neg (by decide), if_neg (by decide)] at ht
  split at ht
  ·cases ht
  ·rename_i x hx
   have hp := List.isPrefixOf_iff_prefix.1 (List.find?_some (p := fun x : List UInt8 => x.isPrefixOf _) hx)
   have hm := signs_facts x (List.mem_of_find?_eq_some hx)
   cases x with
   | nil => have := hm.1; simp at this
   | cons d z => obtain ⟨q, hq⟩ := hp; simp at hq; rw [hq.1] at hm; exact hm.2.2.1 (List.mem_cons_self ..)
 ·rw [if_neg (by decide), if_neg (by decide), if_neg (fun x => absurd x.1 (by decide)), if_neg (by decide), if_neg (by decide)] at ht
  split at ht
  ·cases ht
  ·rename_i x hx
   have hp := List.isPrefixOf_iff_prefix.1 (List.find?_some (p := fun x : List UInt8 => x.isPrefixOf _) hx)
   have hm := signs_facts x (List.mem_of_find?_eq_some hx)
   cases x with
   | nil => have := hm.1; simp at this
   | cons d z => obtain ⟨q, hq⟩ := hp; simp at hq; rw [hq.1] at hm; exact hm.2.2.2 (List.mem_cons_self ..)
theorem lexL_backB : ∀ (ys : List Tok), (∀ y ∈ ys, GoodT y) → ∀ g a, (backB ys ++ [32, 10]).length ≤ g → ∃ ts, lexL g a (backB ys ++ [32, 10]) = .ok ts ∧ ts.map stripT = ys.map stripT ++ [(0, [], 0)]
 | [], _, g, a, hg => ⟨_, lexL_blanks [32, 10] (by decide) g a hg, rfl⟩
 | y :: ys, hy, g, a, hg => by
  have hgd := hy y (List.mem_cons_self ..)
  obtain ⟨c, r, hT, hc⟩ := good_head hgd
  obtain ⟨_, _, h1, hg'⟩ := hgd
  have ht := hg' (32 :: 10 :: (backB ys ++ [32, 10])) (.inr ⟨32, _, rfl, rfl⟩)
  have e0 : backB (y :: ys) ++ [32, 10] = tokText y.k y.text y.n ++ 32 :: 10 :: (backB ys ++ [32, 10]) := by rw [backB_cons]; simp
  rw [e0] at hg ⊢
  rw [hT] at ht hg ⊢
  rw [List.length_append, List.length_cons, List.length_cons, List.length_cons] at hg
  obtain ⟨g', rfl⟩ : ∃ g', g = g' + 1 := ⟨g - 1, by omega⟩
  have ed : (c :: r ++ 32 :: 10 :: (backB ys ++ [32, 10])).drop (c :: r).length = 32 :: 10 :: (backB ys ++ [32, 10]) := List.drop_left
  obtain ⟨g2, rfl⟩ : ∃ g2, g' = g2 + 2 := ⟨g' - 2, by omega⟩
  obtain ⟨ts, hts, hs⟩ := lexL_backB ys (fun z hz => hy z (List.mem_cons_of_mem _ hz)) g2 (a + (c :: r).length + 1 + 1) (by omega)
  refine ⟨⟨y.k, a, y.text, y.n⟩ :: ts, ?_, ?_⟩
  ·rw [List.cons_append] at ht ed ⊢
   rw [lexL_tok (g2 + 2) a _ hc, ht]
   simp only [ed]
   rw [lexL_blank (g2 + 1) _ _ (by rfl), lexL_blank g2 _ _ (by rfl), hts]
  ·rw [List.map_cons, hs]; rfl
theorem backB_len {M : Nat} : ∀ (ts : List Tok), (∀ t ∈ ts, TokBd M t) → (backB ts).length ≤ ts.length * (M + 2)
 | [], _ => by simp [backB]
 | t :: ts, h => by
  have h1 := (h t (List.mem_cons_self ..)).l
  have h2 := backB_len ts (fun x hx => h x (List.mem_cons_of_mem _ hx))
  rw [backB_cons, List.length_append, List.length_cons, List.length_cons, List.length_cons, Nat.succ_mul]
  omega
theorem backB_take (ts : List Tok) (k : Nat) (h : k < ts.length) : backB (ts.take (k + 1)) = backB (ts.take k) ++ (tokText ts[k].k ts[k].text ts[k].n ++ [32, 10]) := by
 rw [List.take_succ_eq_append_getElem h, backB_app]; simp [backB]
theorem backB_again {s : List UInt8} {ts : List Tok} (h : lexOf s = .ok ts) (hl : (backB ts).length ≤ 4096) : ∃ us, lexOf (backB ts) = .ok us ∧ us.map stripT = ts.map stripT := by
 obtain ⟨_, _, _, _, ys, rfl, hg⟩ := lexOf_ok h
 have e : backB (ys ++ [⟨0, s.length, [], 0⟩]) = backB ys ++ [32, 10] := by rw [backB_app]; simp [backB, tokText]
 rw [e] at hl ⊢
 obtain ⟨us, h1, h2⟩ := lexL_backB ys hg (backB ys ++ [32, 10]).length 0 (Nat.le_refl _)
 exact ⟨us, by unfold lexOf; rw [if_neg (by omega), h1], by rw [h2, List.map_append]; rfl⟩
theorem blanks_pr {s : List UInt8} {ts : List Tok} (hl : lexOf s = .ok ts) {x y : ExprT} {er p er2 p2 : Int} (h : PR s x er p) (h2 : PR (backB ts) y er2 p2) : ((backB ts).length ≤ 4096 ∧ er2 = er ∧ SameE x y) ∨ (4096 < (backB ts).length ∧ er2 = 4) := by
 by_cases hb : (backB ts).length ≤ 4096
 ·obtain ⟨us, hu, hst⟩ := backB_again hl hb
  obtain ⟨e, hS⟩ := pr_same hl hu hst h h2
  exact .inl ⟨hb, e, hS⟩
 ·refine .inr ⟨by omega, ?_⟩
  have he : lexOf (backB ts) = .error (4, 0) := by unfold lexOf; rw [if_pos (by omega)]
  cases h2 with
  | lexErr h => rw [he] at h; cases h; rfl
  | syn h => rw [he] at h; cases h
  | many h => rw [he] at h; cases h
  | deep h => rw [he] at h; cases h
  | ok h => rw [he] at h; cases h
end Go.Proofs.YtpjkfeehgookkaaGreatDoor
namespace Go.Proofs.YtpjkfeehgookkaaGreatDoor
open Go.RowKit
theorem ExprAt.lens {w : World} {ok : Nat → Prop} {k a : Int} {nm : List UInt8} {n : Int} {s : List UInt8} {ls : List (List UInt8)} {args : List ExprT} {arms : List (PatT × ExprT)} {A5 : Option Addr} {n5 c5 : Nat} {A6 : Option Addr} {n6 c6 : Nat} {A7 : Option Addr} {n7 c7 : Nat} {a0 a1 a2 a3 a4 : Value}
  (h : ExprAt w ok (.mk k a nm n s ls args arms) [a0, a1, a2, a3, a4, .slice A5 n5 c5, .slice A6 n6 c6, .slice A7 n7 c7]) : n5 = ls.length ∧ n6 = args.length ∧ n7 = arms.length := by
 cases h with
 | mk _ _ _ _ h5 _ h6 _ h7 _ _ => exact ⟨h5.len, h6.len, h7.len⟩
theorem Same_any {k a : Int} {nm : List UInt8} {n : Int} {s : List UInt8} {ls : List (List UInt8)} {args : List ExprT} {arms : List (PatT × ExprT)} {k' a' : Int} {nm' : List UInt8} {n' : Int} {s' : List UInt8} {ls' : List (List UInt8)} {args' : List ExprT} {arms' : List (PatT × ExprT)}
  (hS : SameE (.mk k a nm n s ls args arms) (.mk k' a' nm' n' s' ls' args' arms')) (hz : laE (.mk k a nm n s ls args arms) ≤ 1099511627776)
  (A5 A5' : Option Addr) (n5 n5' cc5 cc5' : Nat) (A6 A6' : Option Addr) (n6 n6' cc6 cc6' : Nat) (A7 A7' : Option Addr) (n7 n7' cc7 cc7' : Nat) (w : World) (ok ok' : Nat → Prop)
  (hx : ExprAt w ok (.mk k a nm n s ls args arms) [.int .i64 k, .int .i64 a, .string ⟨nm.toArray⟩, .int .i64 n, .string ⟨s.toArray⟩, .slice A5 n5 cc5, .slice A6 n6 cc6, .slice A7 n7 cc7])
  (hy : ExprAt w ok' (.mk k' a' nm' n' s' ls' args' arms') [.int .i64 k', .int .i64 a', .string ⟨nm'.toArray⟩, .int .i64 n', .string ⟨s'.toArray⟩, .slice A5' n5' cc5', .slice A6' n6' cc6', .slice A7' n7' cc7']) :
  Calls Tryz.prog 14 #[.agg #[.int .i64 k, .int .i64 a, .string ⟨nm.toArray⟩, .int .i64 n, .string ⟨s.toArray⟩, .slice A5 n5 cc5, .slice A6 n6 cc6, .slice A7 n7 cc7], .agg #[.int .i64 k', .int .i64 a', .string ⟨nm'.toArray⟩, .int .i64 n', .string ⟨s'.toArray⟩, .slice A5' n5' cc5', .slice A6' n6' cc6', .slice A7' n7' cc7'], .bool false] w fun e w' => e = .returned (.bool true) ∧ Fr [] w w' := by
 obtain ⟨rfl, rfl, rfl⟩ := hx.lens
 obtain ⟨rfl, rfl, rfl⟩ := hy.lens
 cases hS with
 | mk hl h hl2 hp hx2 =>
  rw [← hl, ← hl2] at hy ⊢
  exact same_all _ _ _ _ _ _ _ _ _ _ _ _ _ _ _ _ _ _ _ _ _ _ _ _ false w ok ok' (Nat.lt_succ_self _) hz hx hy ⟨hl, h⟩ ⟨hl2, fun i x y h1 h2 => ⟨hp i x.1 y.1 x.2 y.2 h1 h2, hx2 i x.1 y.1 x.2 y.2 h1 h2⟩⟩ (fun h => by cases h)
theorem PR.la {s : List UInt8} {x : ExprT} {er p : Int} (h : PR s x er p) : laE x ≤ 1099511627776 := by
 have hz : laE .zero ≤ 1099511627776 := by decide
 cases h with
 | lexErr => exact hz
 | syn => exact hz
 | many => exact hz
 | deep => exact hz
 | @ok ts _ st' t hl hr ht hok hend hm hd =>
  have h1 : laE x + 1 ≤ 0 + 2 * (st'.i - 0) := hr.laCost (b := 0) (lwtE .seq) hok
  have h2 := (List.getElem?_eq_some_iff.1 ht).1
  have h3 := (endOk_of hl).1
  omega
theorem ExprAt.fr {w w' : World} {x : ExprT} {cs : List Value} (h : ExprAt w (fun b => b < w.heap.size) x cs) (f : Fr [] w w') : ExprAt w' (fun b => b < w'.heap.size) x cs :=
 h.keep (Sh.of_fr f (fun b hb _ => ⟨by have := f.size; omega, fun x => by cases x⟩))
theorem ExprAt.fr0 {w w' : World} {B : Nat} {x : ExprT} {cs : List Value} (h : ExprAt w (fun b => B ≤ b) x cs) (f : Fr [] w w') : ExprAt w' (fun b => b < w'.heap.size) x cs :=
 h.keep (Sh.of_fr f (fun b _ hlt => ⟨by have := f.size; omega, fun x => by cases x⟩))
end Go.Proofs.YtpjkfeehgookkaaGreatDoor
namespace Go.Proofs.YtpjkfeehgookkaaGreatDoor
open Go.RowKit
attribute [local go_sem ↓] Go.wp_at_zero Go.wp_at_succ
set_option maxHeartbeats 4000000 in
set_option maxRecDepth 100000 in
theorem ParseBlanks_walk (a : ByteArray) (ha : a.size ≤ 140737488355328) (w : World) (hE : EnvL w) :
  Calls Tryz.prog 5 #[.string a] w fun e w' => e = .returned (.bool true) ∧ Fr [] w w' := by
 have HE := Lib.hid hE
 have cA := fun w hE => Lib.hid (awake6_any w hE)
 have c1 := fun w hE => Lib.hid (Parse_any a (by omega) w hE)
 cases hl : lexOf a.data.toList with
 | error x =>
  obtain ⟨er, p⟩ := x
  have cL := fun w hE => Lib.hid (Lex_er a (by omega) hl w hE)
  have her : (er != 0) = true := bne_iff_ne.2 (by rcases lexOf_err hl with ⟨_, h, _⟩ | ⟨_, _, h, _⟩ <;> omega)
  clear hE hl
  go_enter Tryz.func5, Tryz.ntmps5
  go_wp2_with fail
  refine (cA _ HE.out).out.mono ?_; rintro e w1 ⟨rfl, f1⟩; go_wp2_with fail
  refine (cL _ (HE.out.fr f1)).out.mono ?_; rintro e w2 ⟨rfl, f2⟩; go_wp2_with fail
  go_ret
  exact ⟨rfl, f1.trans f2⟩
 | ok ts =>
  have cL := fun w hE => Lib.hid (Lex_ok a (by omega) hl w hE)
  have HB : Hid (∀ {x y : ExprT} {er p er2 p2 : Int}, PR a.data.toList x er p → PR (backB ts) y er2 p2 → ((backB ts).length ≤ 4096 ∧ er2 = er ∧ SameE x y) ∨ (4096 < (backB ts).length ∧ er2 = 4)) := Lib.hid (fun h h2 => blanks_pr hl h h2)
  obtain ⟨_, _, hlen, hbd, _⟩ := lexOf_ok hl
  have HBD := Lib.hid hbd
  clear hE hl hbd
  go_enter Tryz.func5, Tryz.ntmps5
  go_wp2_with fail
  refine (cA _ HE.out).out.mono ?_; rintro e w1 ⟨rfl, f1⟩; go_wp2_with fail
  refine (cL _ (HE.out.fr f1)).out.mono ?_; rintro e w2 ⟨⟨g1, d1, rfl, hg1, hR1⟩, f2⟩; go_wp2_with fail
  have f12 := f1.trans f2
  clear f1 f2 cL cA
  go_loopw [6, 26] (fun x i wr => ∃ k : Nat, i = .int .i64 k ∧ k ≤ ts.length ∧ x = .string ⟨(backB (ts.take k)).toArray⟩ ∧ Fr [] w2 wr) (fun _ i _ => ts.length - (intOf i).toNat)
  case atStart => exact ⟨0, rfl, by omega, rfl, Fr.refl _ _⟩
  case round =>
   obtain ⟨k, rfl, hk, rfl, fr⟩ := hrel
   by_cases hlt : k < ts.length
   ·have hR := hR1.fr fr hg1
    have ht : ts[k]? = some ts[k] := List.getElem?_eq_getElem hlt
    have a0 := hR.c0 k _ ht
    have a1 := hR.c1 k _ ht
    have a2 := hR.c2 k _ ht
    have a3 := hR.c3 k _ ht
    have hb := HBD.out _ (List.getElem_mem hlt)
    have hn := Lib.hid (backB_take ts k hlt)
    have hbk := backB_len (ts.take k) (fun t ht => HBD.out t (List.mem_of_mem_take ht))
    rw [List.length_take] at hbk
    have cT := fun w => Lib.hid (RText5_any ts[k] (by have := hb.n0; omega) (by have := hb.n1; omega) (by have := hb.x; omega) w)
    have hbl1 := hb.l
    have hb2 : (min k ts.length) * (4096 + 2) ≤ 4097 * 4098 := Nat.mul_le_mul (by omega) (by omega)
    clear ht hR hb
    generalize ts[k] = t at *
    obtain ⟨tk, ta, tt, tn⟩ := t
    simp only at a0 a1 a2 a3 hn hbl1 cT
    generalize tokText tk tt tn = X at *
    generalize hY : backB (ts.take k) = Y at *
    clear hY
    go_wp2_with fail
    refine (cT _).out.mono ?_; rintro e w3 ⟨rfl, f3⟩; go_wp2_with fail
    go_roundw
    case rel => exact ⟨k + 1, by go_num, by omega, by rw [hn.out]; simp [ByteArray.mk_append_mk], fr.trans f3⟩
    case measure => simp [intOf]; omega
   ·have hke : ts.take k = ts := List.take_of_length_le (by omega)
    have F := f12.trans fr
    have hbl := backB_len ts HBD.out
    rw [hke]
    clear hke HBD f12 fr hR1
    have hzs : (ByteArray.mk (backB ts).toArray).size = (backB ts).length := rfl
    have hlt2 : ts.length * (4096 + 2) ≤ 4097 * 4098 := Nat.mul_le_mul (by omega) (by omega)
    have c2 := fun w hE => Lib.hid (Parse_any ⟨(backB ts).toArray⟩ (by rw [hzs]; omega) w hE)
    have e2 : (ByteArray.mk (backB ts).toArray).data.toList = backB ts := rfl
    rw [e2] at c2
    clear e2 hzs
    have hbz : (backB ts).length ≤ 4097 * 4098 := by omega
    generalize backB ts = Z at *
    go_wp2_with fail
    refine (c1 _ (HE.out.fr F)).out.mono ?_
    rintro e x1 ⟨k1, a1, nm1, n1, s1, ls1, args1, arms1, A51, n51, c51, A61, n61, c61, A71, n71, c71, er1, at1, rfl, hx1, hpr1, fx1⟩
    have HPR1 := Lib.hid hpr1
    clear hpr1
    replace F := F.trans fx1
    clear fx1
    go_wp2_with fail
    have q1 := heap_new x1 (.cells #[.int .i64 k1, .int .i64 a1, .string ⟨nm1.toArray⟩, .int .i64 n1, .string ⟨s1.toArray⟩, .slice A51 n51 c51, .slice A61 n61 c61, .slice A71 n71 c71] 27)
    have fb1 := (Fr.refl [] x1).alloc (.cells #[.int .i64 k1, .int .i64 a1, .string ⟨nm1.toArray⟩, .int .i64 n1, .string ⟨s1.toArray⟩, .slice A51 n51 c51, .slice A61 n61 c61, .slice A71 n71 c71] 27)
    have HX1 := Lib.hid (hx1.fr0 fb1)
    replace F := F.trans fb1
    clear fb1 hx1
    generalize x1.alloc (.cells #[.int .i64 k1, .int .i64 a1, .string ⟨nm1.toArray⟩, .int .i64 n1, .string ⟨s1.toArray⟩, .slice A51 n51 c51, .slice A61 n61 c61, .slice A71 n71 c71] 27) = y1 at *
    generalize x1.heap.size = T1 at *
    go_wp2_with fail
    refine (c2 _ (HE.out.fr F)).out.mono ?_
    rintro e x2 ⟨k2, a2, nm2, n2, s2, ls2, args2, arms2, A52, n52, c52, A62, n62, c62, A72, n72, c72, er2, at2, rfl, hx2, hpr2, fx2⟩
    have HPR2 := Lib.hid hpr2
    clear hpr2
    replace F := F.trans fx2
    replace HX1 := Lib.hid (HX1.out.fr fx2)
    replace q1 := fx2.keep q1 (fun x => by cases x)
    clear fx2
    rcases HB.out HPR1.out HPR2.out with ⟨hz, rfl, hS⟩ | ⟨hz, rfl⟩
    ·have HS := Lib.hid hS
     clear hS
     have hd : (er2 == er2) = true := by simp
     have hzi : (Z.length : Int) ≤ 4096 := by omega
     have hT1 := lt_of_heap q1
     obtain ⟨⟨l10, l11, l12, l13, l14, l15, l16, l17⟩, _⟩ := cells8 q1
     go_wp2_with fail
     have q2 := heap_new x2 (.cells #[.int .i64 k2, .int .i64 a2, .string ⟨nm2.toArray⟩, .int .i64 n2, .string ⟨s2.toArray⟩, .slice A52 n52 c52, .slice A62 n62 c62, .slice A72 n72 c72] 27)
     have fb2 := (Fr.refl [] x2).alloc (.cells #[.int .i64 k2, .int .i64 a2, .string ⟨nm2.toArray⟩, .int .i64 n2, .string ⟨s2.toArray⟩, .slice A52 n52 c52, .slice A62 n62 c62, .slice A72 n72 c72] 27)
     have HX2 := Lib.hid (hx2.fr0 fb2)
     replace HX1 := Lib.hid (HX1.out.fr fb2)
     replace q1 := fb2.keep q1 (fun x => by cases x)
     replace F := F.trans fb2
     clear fb2 hx2
     generalize x2.alloc (.cells #[.int .i64 k2, .int .i64 a2, .string ⟨nm2.toArray⟩, .int .i64 n2, .string ⟨s2.toArray⟩, .slice A52 n52 c52, .slice A62 n62 c62, .slice A72 n72 c72] 27) = y2 at *
     generalize x2.heap.size = T2 at *
     refine (Same_any HS.out HPR1.out.la A51 A52 n51 n52 c51 c52 A61 A62 n61 n62 c61 c62 A71 A72 n71 n72 c71 c72 y2 _ _ HX1.out HX2.out).mono ?_; rintro e w8 ⟨rfl, f8⟩; go_wp2_with fail
     go_ret
     exact ⟨rfl, F.trans f8⟩
    ·have hzi : (4096 : Int) < (Z.length : Int) := by omega
     go_wp2_with fail
     go_ret
     exact ⟨rfl, F.alloc _⟩
end Go.Proofs.YtpjkfeehgookkaaGreatDoor
namespace Go.Proofs.YtpjkfeehgookkaaGreatDoor
open Go.ChangeShapes Go.WideShapes Go.ChangeAt Go.ChangeMaps Go.RowKit
section
theorem parseBlanks_reads (os : Os) {H : Type} (enc : TypeId × Value → H) : ∃ places, DataW.whole enc Tryz.prog ((doorW os).forCall (fun _ _ => 0) ⟨#[], #[.string ⟨#[]⟩], []⟩).memory Tryz.f5.params.toList Rows.parseBlanksSpec.vars false (#[.string ⟨#[]⟩] : Array Value).toList 8 = some ([.lit (.string [])], [], places) :=
 ⟨[], by kernel_rfl⟩
set_option maxRecDepth 100000 in
theorem parseBlanks_contract (H : Type) (enc : TypeId × Value → H) (W : World) (base : Nat) (args : Array Value) (ds gs : List (DataW H)) (before : List MemPlace)
  (hval : ∀ (j : Nat) t v, Tryz.f5.params[j]? = some t → args[j]? = some v → Value.okWide Tryz.prog W .any base t v)
  (hW : DataW.Whole enc Tryz.prog Tryz.f5.params.toList Rows.parseBlanksSpec.vars false W args.toList ds gs before) (hsz : (DataW.weightsEach Tryz.prog (Tryz.f5.params.toList ++ Rows.parseBlanksSpec.plain.varTypes Tryz.prog) (ds ++ gs)).all (· ≤ reachBytes) = true) (hL : laidMetH Tryz.prog Rows.parseBlanksRow.laid W) (hS : W.ShapedOpen Tryz.prog) :
  Calls Tryz.prog 5 args W fun e W' => ∃ v, e = .returned v ∧ Rows.parseBlanksSpec.post enc Tryz.prog Tryz.f5 false true false false W args v W' := by
 have hE := env_of hL hS
 have hW' := hW
 obtain ⟨p, q, hA0, hV, rfl, hfz, hnd⟩ := hW
 have hA : DataW.TrodAll enc Tryz.prog W 0 (fun _ => true) true Tryz.f5.params.toList args.toList ds p := hA0
 rw [Tryz.params5] at hA hval hsz
 obtain ⟨v0, vs0, d0, ds0, p0, q0, hargs, rfl, rfl, t0, r0⟩ := trodAll_cons hA
 obtain ⟨rfl, rfl, rfl⟩ := trodAll_nil r0
 obtain rfl : args = #[v0] := by cases args; simp_all
 obtain ⟨rfl, rfl⟩ := trodVars_none hV
 obtain ⟨a, rfl, rfl, rfl, ha⟩ := open_string Tryz.underlying9 (hval 0 9 v0 rfl rfl) t0
 have za : a.size ≤ 140737488351232 := sized_string hsz (j := 0) (t := 9) (bytes := a.data.toList) rfl rfl
 clear hA0
 simp only [List.append_nil] at hW'
 refine (ParseBlanks_walk a (by omega) W hE).mono fun e W' ⟨he, hf⟩ => ?_
 subst he
 refine ⟨_, rfl, _, _, _, [], [], [], hW', ?_, ?_, rfl, hf.below0.frame _, fun h => by cases h⟩
 ·exact trodAll_cons_mk (shut_bool Tryz.underlying4 _) trodAll_mk0
 ·exact trodAll_cons_mk (shut_string Tryz.underlying9 ha) trodAll_mk0
set_option maxRecDepth 100000 in
theorem parseBlanks_lifted (os : Os) (started : os.Started) (H : Type) (enc : TypeId × Value → H) (F : Stop.Interp) :
  ReturnsInHanded {} Tryz.checked os 5 .any ((OpenSpec.ofChange Rows.parseBlanksSpec).preRow enc Tryz.prog Tryz.f5 Rows.parseBlanksRow.domain false Rows.parseBlanksRow.laid) (((OpenSpec.ofChange Rows.parseBlanksSpec).at F).post enc Tryz.prog Tryz.f5 false true false false) := by
 obtain ⟨places, hx⟩ := parseBlanks_reads os enc
 refine returnsInHanded_of_row (C := Tryz.checked) (s := OpenSpec.ofChange Rows.parseBlanksSpec) own started (by kernel_rfl) Tryz.func5
  (witness_row_atRef (enc := enc) (C := Tryz.checked) false (doorW os) #[.string ⟨#[]⟩] rfl (by kernel_rfl) (by kernel_rfl) (by kernel_rfl)
   (OpenSpec.preRow_of_cond 8 hx (by kernel_rfl) (fun k hk => by cases hk) (by kernel_rfl) (laid_met os _))) ?_
 intro W base args ds gs before hval hW _ _ hsz hL hS _
 exact parseBlanks_contract H enc W base args ds gs before hval hW hsz hL hS
theorem parseBlanks_said : Rows.ParseBlanksSaid :=
 OpenClaim.holds_of_cond 5 Tryz.f5 rfl rfl rfl rfl rfl rfl rfl ⟨rfl, rfl, rfl, rfl, rfl⟩ rfl rfl rfl rfl rfl (by kernel_rfl) Tryz.func5 (by kernel_rfl)
  (of_decide_eq_true (by kernel_rfl)) (by unfold Func.isWrapper; first | (rw [if_pos (by decide +kernel)]; kernel_rfl) | (rw [if_neg (by decide +kernel)]; exact ⟨rfl, rfl⟩))
  (fun os started H enc _ F => by rw [OpenClaim.pre_eq_preRow]; exact parseBlanks_lifted os started H enc F)
theorem parseBlanks_plain (f : FuncId) (fn : Func) (hf : Tryz.pinned.checked.prog.funcNamed "marquetry/marquetrylaw06.ParseBlanks" = some f) (hfn : Tryz.pinned.checked.prog.funcs[f]? = some fn) :
  true = Tryz.pinned.checked.prog.looks [] ∧ ∀ (j : Nat) t, fn.params[j]? = some t → Tryz.pinned.checked.prog.wantsStandIn t = false := by
 obtain rfl : f = 5 := Option.some.inj ((show Tryz.prog.funcNamed "marquetry/marquetrylaw06.ParseBlanks" = some 5 by kernel_rfl).symm.trans hf) |>.symm
 obtain rfl : fn = Tryz.f5 := (Option.some.inj (Tryz.func5.symm.trans hfn)).symm
 refine ⟨by kernel_rfl, fun j t ht => ?_⟩
 rw [Tryz.params5] at ht
 have hm : t ∈ [9] := by simpa using Array.mem_of_getElem? ht
 have hall : ([9].all fun u => !Tryz.prog.wantsStandIn u) = true := by kernel_rfl
 exact (show Tryz.prog.wantsStandIn t = false by simpa using List.all_eq_true.1 hall t hm)
theorem parseBlanks_card : Rows.ParseBlanksCardSaid :=
 Claim7.holds_tied_plain_at .later [] _ _ _ _ parseBlanks_said (fun _ h => by cases h) (by kernel_rfl) (fun _ h => by cases h) parseBlanks_row_tie rfl ⟨rfl, rfl⟩ (by kernel_rfl) rfl parseBlanks_plain (by kernel_rfl)
end
end Go.Proofs.YtpjkfeehgookkaaGreatDoor
