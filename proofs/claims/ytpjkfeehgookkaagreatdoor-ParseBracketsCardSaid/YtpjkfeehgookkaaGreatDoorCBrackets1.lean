/- Round brackets around a whole text change places alone: proved for every input. -/
import Derived.Lib.ConvBytes
import Derived.BigQuiet
import Derived.Deep.QuietTactic
import Derived.Deep.RegionHeld3
import Derived.Test.YtpjkfeehgookkaaGreatDoorCb6
namespace Go.Proofs.YtpjkfeehgookkaaGreatDoor
open Go.RowKit
theorem BI.frame {w:World} {b:Nat} {r:Option (Nat × Obj)} {l:List UInt8} {wr:World} (h:BI w b r l wr):Fr [] w wr:=by
 obtain ⟨own,_,_,_,hf,_⟩:=h
 exact hf
end Go.Proofs.YtpjkfeehgookkaaGreatDoor
namespace Go.Proofs.YtpjkfeehgookkaaGreatDoor
open Go.RowKit
attribute [local go_sem ↓] Go.wp_at_zero Go.wp_at_succ
theorem kc {w w':World} {p:Addr} {v:Value} (f:Fr [] w w') (h:w.cell? p = some v) (hlt:p.block < w.heap.size):w'.cell? p = some v:=(f.cell hlt (fun x => by cases x)).trans h
set_option maxHeartbeats 2000000 in
set_option maxRecDepth 100000 in
theorem texts_any (ls:List (List UInt8)) (hls:ls.length≤1099511627776) (A A':Option Addr) (c c':Nat) (w:World) {ok ok':Nat→Prop} {cs cs':Nat→List Value} (h:SlAt w ok (.slice A ls.length c) ls.length 1 cs) (e:∀ (i:Nat) (x:List UInt8),ls[i]? = some x→cs i = strC x)
  (h':SlAt w ok' (.slice A' ls.length c') ls.length 1 cs') (e':∀ (i:Nat) (x:List UInt8),ls[i]? = some x→cs' i = strC x) :
  Calls Tryz.prog 24 #[.slice A ls.length c,.slice A' ls.length c'] w fun e w' => e = .returned (.bool true)∧Fr [] w w':=by
 have H:=Lib.hid h
 have H':=Lib.hid h'
 have E:=Lib.hid e
 have E':=Lib.hid e'
 have hl:(ls.length:Int)≤1099511627776:=by omega
 clear h h' e e'
 go_enter Tryz.func24,Tryz.ntmps24
 go_wp2_with fail
 go_loopw [5] (fun iv wr => ∃ i:Nat,iv = .int .i64 i∧i≤ls.length∧Fr [] w wr) (fun iv wr => ls.length - (intOf iv).toNat)
 case atStart => exact ⟨0,rfl,by omega,Fr.refl _ _⟩
 case round =>
  obtain ⟨i,rfl,hi,f⟩:=hrel
  by_cases hlt:i < ls.length
  ·obtain ⟨g,og,rfl,_,hg,_,_,hc⟩:=H.out.row hlt
   obtain ⟨g',og',rfl,_,hg',_,_,hc'⟩:=H'.out.row hlt
   have hx:ls[i]? = some ls[i]:=List.getElem?_eq_getElem hlt
   rw [E.out i _ hx] at hc
   rw [E'.out i _ hx] at hc'
   have x0:wr.cell? ⟨g,og + i,none⟩ = some (.string ⟨(ls[i]).toArray⟩):=(f.cell (p:=⟨g,og + i,none⟩) hg (fun x => by cases x)).trans (by have:=hc 0 _ rfl;simpa using this)
   have x1:wr.cell? ⟨g',og' + i,none⟩ = some (.string ⟨(ls[i]).toArray⟩):=(f.cell (p:=⟨g',og' + i,none⟩) hg' (fun x => by cases x)).trans (by have:=hc' 0 _ rfl;simpa using this)
   generalize ls[i] = s at *
   clear hc hc' hx
   have q1:(0:Int)≤(i:Int):=by omega
   have q2:(i:Int) < (ls.length:Int):=by omega
   go_wp2_with fail
   go_quiet (fail)
   go_wp2_with fail
   go_roundw
   case rel => exact ⟨i + 1,by simp,by omega,f.drewN _⟩
   case measure => simp [intOf];omega
  ·have ei:i = ls.length:=by omega
   subst ei
   go_wp2_with fail
   go_ret
   exact ⟨rfl,f⟩
end Go.Proofs.YtpjkfeehgookkaaGreatDoor
namespace Go.Proofs.YtpjkfeehgookkaaGreatDoor
open Go.RowKit
mutual
def laP:PatT→Nat
 | .mk _ _ _ _ _ ls args => 1 + ls.length + laPs args
def laPs:List PatT→Nat
 | [] => 0
 | x :: l => laP x + laPs l
end
mutual
def laE:ExprT→Nat
 | .mk _ _ _ _ _ ls args arms => 1 + ls.length + (laEs args + laAs arms)
def laEs:List ExprT→Nat
 | [] => 0
 | x :: l => laE x + laEs l
def laAs:List (PatT × ExprT)→Nat
 | [] => 0
 | x :: l => laA x + laAs l
def laA:PatT × ExprT→Nat
 | (p,x) => laP p + laE x
end
theorem laPs_app (l m:List PatT):laPs (l ++ m) = laPs l + laPs m:=by
 induction l with
 | nil => simp [laPs]
 | cons x l ih => simp [laPs,ih];omega
theorem laEs_app (l m:List ExprT):laEs (l ++ m) = laEs l + laEs m:=by
 induction l with
 | nil => simp [laEs]
 | cons x l ih => simp [laEs,ih];omega
theorem laAs_app (l m:List (PatT × ExprT)):laAs (l ++ m) = laAs l + laAs m:=by
 induction l with
 | nil => simp [laAs]
 | cons x l ih => simp [laAs,ih];omega
theorem laPs_get {l:List PatT} {i:Nat} {x:PatT} (h:l[i]? = some x):laP x≤laPs l:=by
 induction l generalizing i with
 | nil => simp at h
 | cons y l ih =>
  cases i with
  | zero => simp at h;subst h;simp [laPs]
  | succ i => simp at h;have:=ih h;simp [laPs];omega
theorem laEs_get {l:List ExprT} {i:Nat} {x:ExprT} (h:l[i]? = some x):laE x≤laEs l:=by
 induction l generalizing i with
 | nil => simp at h
 | cons y l ih =>
  cases i with
  | zero => simp at h;subst h;simp [laEs]
  | succ i => simp at h;have:=ih h;simp [laEs];omega
theorem laAs_get {l:List (PatT × ExprT)} {i:Nat} {p:PatT} {x:ExprT} (h:l[i]? = some (p,x)):laP p + laE x≤laAs l:=by
 induction l generalizing i with
 | nil => simp at h
 | cons y l ih =>
  cases i with
  | zero => simp at h;subst h;simp [laAs,laA]
  | succ i => simp at h;have:=ih h;simp [laAs];omega
theorem laPs_ge (l:List PatT):l.length≤laPs l:=by
 induction l with
 | nil => simp
 | cons x l ih => cases x;simp [laPs,laP];omega
theorem laEs_ge (l:List ExprT):l.length≤laEs l:=by
 induction l with
 | nil => simp
 | cons x l ih => cases x;simp [laEs,laE];omega
theorem laAs_ge (l:List (PatT × ExprT)):l.length≤laAs l:=by
 induction l with
 | nil => simp
 | cons x l ih => obtain ⟨p,x⟩:=x;cases x;cases p;simp [laAs,laA,laE,laP];omega
def lbaseE:NT→Nat
 | .armsL _ _ x acc => laE x + laAs acc + 2
 | .sumL a => laE a + 1
 | .prodL a => laE a + 1
 | .opL _ _ _ acc => laEs acc + 2
 | .appL a => laE a + 1
 | .postL a => laE a + 1
 | .braces _ => 2
 | .recL _ ls args => laEs args + ls.length + 2
 | _ => 0
def lbaseP:PNT→Nat
 | .marked (.mk _ _ _ _ _ ls args) => laPs args + ls.length
 | .recL _ ls args => laPs args + ls.length + 2
 | _ => 0
def lWt:Nat→Cmd→Prop
 | b,.retE x => laE x + 1≤b
 | b,.retP x => laP x + 1≤b
 | b,.look k => ∀ t,lWt b (k t true)
 | b,.ahead k => ∀ n,lWt b (k n)
 | b,.adv k => lWt (b + 2) k
 | _,.fail _ => True
 | b,.callE nt k => ∀ x m,laE x + 1≤lbaseE nt + 2 * m→lWt (b + 2 * m) (k x)
 | b,.callP nt k => ∀ x m,laP x + 1≤lbaseP nt + 2 * m→lWt (b + 2 * m) (k x)
theorem lwt_ite {p:Prop} [Decidable p] {b:Nat} {c d:Cmd} (h1:p→lWt b c) (h2:¬ p→lWt b d):lWt b (if p then c else d):=by
 split
 ·exact h1 (by assumption)
 ·exact h2 (by assumption)
theorem lwt_mayG {s:List UInt8} {b:Nat} {k:Bool→Cmd} (h1:lWt (b + 2) (k true)) (h2:lWt b (k false)):lWt b (mayC s k):=fun _ => lwt_ite (fun _ => h1) (fun _ => h2)
theorem lwt_may {s:List UInt8} {b:Nat} {c d:Cmd} (h1:lWt (b + 2) c) (h2:lWt b d):lWt b (mayC s fun b => if b = true then c else d):=lwt_mayG h1 h2
theorem lwt_adv {b:Nat} {c:Cmd} (h:lWt (b + 2) c):lWt b (.adv c):=h
theorem lwt_fail {b:Nat} {c:Cmd}:lWt b (.fail c):=trivial
theorem lwt_isI {l:List (List UInt8)} {b:Nat} {c d:Cmd} (h1:lWt b c) (h2:lWt b d):lWt b (isC l fun b => if b = true then c else d):=fun t => by
 show lWt b (if _ then _ else _)
 exact lwt_ite (fun _ => h1) (fun _ => h2)
theorem lwt_must {s:List UInt8} {b:Nat} {c:Cmd} (h:lWt (b + 2) c):lWt b (mustC s c):=fun _ => lwt_ite (fun _ => h) (fun _ => trivial)
theorem lwt_name {b:Nat} {k:List UInt8→Cmd} (h:∀ s,lWt (b + 2) (k s)):lWt b (nameC k):=fun _ => lwt_ite (fun _ => h _) (fun _ => trivial)
theorem lwt_ret {x:ExprT} {b:Nat} (h:laE x + 1≤b):lWt b (.retE x):=h
theorem lwt_retP {x:PatT} {b:Nat} (h:laP x + 1≤b):lWt b (.retP x):=h
theorem lwtP (nt:PNT):lWt (lbaseP nt) (bodyP nt):=by
 cases nt with
 | pat =>
  refine fun t => lwt_ite (fun _ => fun x m h => lwt_retP ?_) (fun _ => fun x m h => lwt_retP ?_) <;> simp only [List.length_nil,lbaseP,laP,laPs] at * <;> omega
 | patom =>
  refine fun t => lwt_ite (fun h => by cases h) (fun _ => lwt_ite (fun _ => lwt_retP ?_) (fun _ => lwt_ite (fun _ => lwt_retP ?_) (fun _ => lwt_ite (fun _ => lwt_retP ?_) (fun _ => lwt_ite (fun _ => lwt_retP ?_) (fun _ => fun x m h => lwt_retP ?_)))))
  ·split <;> simp [laP,laPs,lbaseP]
  all_goals simp only [List.length_nil,lbaseP,laP,laPs] at * <;> omega
 | marked x =>
  obtain ⟨k,a,nm,n,s,ls,args⟩:=x
  unfold bodyP
  refine lwt_may ?_ (lwt_may ?_ (lwt_may ?_ (lwt_may ?_ (lwt_may ?_ lwt_fail))))
  ·exact fun t => lwt_ite (fun _ => lwt_ite (fun _ => lwt_retP (by simp only [lbaseP,laP];omega)) (fun _ => lwt_retP (by simp only [lbaseP,laP];omega))) (fun _ => trivial)
  ·exact lwt_retP (by simp only [lbaseP,laP];omega)
  ·exact lwt_retP (by simp only [lbaseP,laP];omega)
  ·exact lwt_may (lwt_retP (by simp only [lbaseP,laP];omega)) (fun x m h => lwt_must (lwt_retP (by simp only [lbaseP] at *;omega)))
  ·refine lwt_may (lwt_retP (by simp only [lbaseP,laP];omega)) (fun t => lwt_ite (fun _ => fun x m h => lwt_retP (by simp only [lbaseP] at *;omega)) (fun h => absurd rfl h))
 | recL a ls args =>
  unfold bodyP
  refine lwt_name fun s => lwt_must fun x m h => lwt_may ?_ ?_
  ·exact fun y m2 h2 => lwt_retP (by simp only [List.length_nil,List.length_append,List.length_cons,lbaseP,laPs_app,laPs] at *;omega)
  ·exact lwt_must (lwt_retP (by simp only [List.length_nil,List.length_append,List.length_cons,lbaseP,laPs_app,laPs,laP] at *;omega))
theorem lwtE (nt:NT):lWt (lbaseE nt) (body nt):=by
 cases nt with
 | seq => exact fun x m h t => lwt_may (fun y m2 h2 => lwt_ret (by simp only [List.length_nil,lbaseE,nodeE,laE,laEs,laAs] at *;omega)) (lwt_ret (by simp only [lbaseE] at *;omega))
 | item =>
  refine fun t => lwt_may ?_ (lwt_isI (fun x m h => lwt_ret (by simp only [lbaseE] at *;omega)) (lwt_may (fun x m h => lwt_ret (by simp only [lbaseE] at *;omega)) (lwt_may (fun x m h => lwt_ret (by simp only [lbaseE] at *;omega)) (lwt_may ?_ (lwt_may ?_ ?_)))))
  ·refine lwt_mayG ?_ ?_
   ·exact lwt_name fun s => lwt_must fun x m h => lwt_must fun y m2 h2 => lwt_ret (by simp only [List.length_nil,if_true,lbaseE,laE,laEs,laAs] at *;omega)
   ·exact lwt_name fun s => lwt_must fun x m h => lwt_must fun y m2 h2 => lwt_ret (by
     have h:laE x + 1≤lbaseE .seq + 2 * m:=h
     simp only [List.length_nil,lbaseE,laE,laEs,laAs] at *;omega)
  ·exact fun x m h => lwt_must fun y m2 h2 => lwt_must fun z m3 h3 => lwt_ret (by simp only [List.length_nil,lbaseE,nodeE,laE,laEs,laAs] at *;omega)
  ·exact fun x m h => lwt_ret (by simp only [List.length_nil,lbaseE,nodeE,laE,laEs,laAs] at *;omega)
  ·exact fun x m h t => lwt_may (fun y m2 h2 => lwt_ret (by simp only [List.length_nil,lbaseE,opE,laE,laEs,laAs] at *;omega)) (lwt_ret (by simp only [lbaseE] at *;omega))
 | fn => exact fun t => lwt_must (lwt_name fun s => lwt_must fun x m h => lwt_ret (by simp only [List.length_nil,lbaseE,laE,laEs,laAs] at *;omega))
 | arms k a => exact fun x m h => lwt_must fun t => lwt_ite (fun _ => fun y m2 h2 => lwt_ret (by simp only [lbaseE,laAs] at *;omega)) (fun h => absurd rfl h)
 | armsL k a x acc => exact fun p m h => lwt_must fun y m2 h2 => lwt_may (fun z m3 h3 => lwt_ret (by simp only [lbaseE,lbaseP,laAs_app,laAs,laA] at *;omega)) (lwt_must (lwt_ret (by simp only [List.length_nil,lbaseE,lbaseP,laAs_app,laAs,laA,laE,laEs] at *;omega)))
 | or => exact fun x m h t => lwt_may (fun y m2 h2 => lwt_ret (by simp only [List.length_nil,lbaseE,nodeE,laE,laEs,laAs] at *;omega)) (lwt_ret (by simp only [lbaseE] at *;omega))
 | and => exact fun x m h t => lwt_may (fun y m2 h2 => lwt_ret (by simp only [List.length_nil,lbaseE,nodeE,laE,laEs,laAs] at *;omega)) (lwt_ret (by simp only [lbaseE] at *;omega))
 | cmp => exact fun x m h t => lwt_ite (fun _ => fun y m2 h2 => lwt_ret (by simp only [List.length_nil,lbaseE,opE,laE,laEs,laAs] at *;omega)) (fun _ => lwt_ret (by simp only [lbaseE] at *;omega))
 | sum => exact fun x m h y m2 h2 => lwt_ret (by simp only [lbaseE] at *;omega)
 | sumL a => exact fun t => lwt_ite (fun _ => fun x m h y m2 h2 => lwt_ret (by simp only [List.length_nil,lbaseE,opE,laE,laEs,laAs] at *;omega)) (fun _ => lwt_ret (by simp only [lbaseE] at *;omega))
 | prod => exact fun x m h y m2 h2 => lwt_ret (by simp only [lbaseE] at *;omega)
 | prodL a => exact fun t => lwt_ite (fun _ => fun x m h y m2 h2 => lwt_ret (by simp only [List.length_nil,lbaseE,opE,laE,laEs,laAs] at *;omega)) (fun _ => lwt_ret (by simp only [lbaseE] at *;omega))
 | unary => exact fun t => lwt_may (fun x m h => lwt_ret (by simp only [List.length_nil,lbaseE,opE,laE,laEs,laAs] at *;omega)) (lwt_may (fun x m h => lwt_ret (by simp only [List.length_nil,lbaseE,opE,laE,laEs,laAs] at *;omega)) (fun x m h => lwt_ret (by simp only [lbaseE] at *;omega)))
 | app =>
  refine fun t => lwt_ite (fun _ => fun x m h => lwt_ret ?_) (fun _ => lwt_ite (fun _ => fun x m h => lwt_ret ?_) (fun _ => fun x m h y m2 h2 => lwt_ret ?_)) <;> simp only [List.length_nil,lbaseE,laE,laEs,laAs] at * <;> omega
 | opL n a m acc =>
  cases m with
  | zero => exact lwt_ret (by simp only [List.length_nil,lbaseE,opE,laE,laAs];omega)
  | succ m => exact fun x m1 h y m2 h2 => lwt_ret (by simp only [lbaseE,laEs_app,laEs] at *;omega)
 | appL a => exact fun t => lwt_ite (fun _ => fun x m h y m2 h2 => lwt_ret (by simp only [List.length_nil,lbaseE,nodeE,laE,laEs,laAs] at *;omega)) (fun _ => lwt_ret (by simp only [lbaseE] at *;omega))
 | post => exact fun t => lwt_may (fun x m h => lwt_ret (by simp only [List.length_nil,lbaseE,opE,laE,laEs,laAs] at *;omega)) (fun x m h y m2 h2 => lwt_ret (by simp only [lbaseE] at *;omega))
 | postL a => exact fun t => lwt_ite (fun _ => lwt_adv (lwt_name fun s => fun y m2 h2 => lwt_ret (by simp only [List.length_nil,lbaseE,laE,laEs,laAs] at *;omega))) (fun _ => lwt_ret (by simp only [lbaseE] at *;omega))
 | atom =>
  intro t
  refine lwt_ite (fun _ => ?_) (fun _ => trivial)
  show lWt (0 + 2) _
  repeat refine lwt_ite (fun _ => (by first | exact lwt_ret (by simp only [List.length_nil,laE,laEs,laAs];omega) | exact fun x m h => lwt_ret (by simp only [lbaseE] at *;omega))) (fun _ => ?_)
  exact lwt_may (lwt_ret (by simp only [List.length_nil,laE,laEs,laAs];omega)) (fun x m h => lwt_must (lwt_ret (by simp only [lbaseE] at *;omega)))
 | braces a =>
  unfold body
  refine lwt_may (lwt_ret (by simp only [List.length_nil,lbaseE,laE,laEs,laAs];omega)) (fun n t => lwt_ite (fun _ => lwt_ite (fun _ => fun x m h => lwt_ret (by simp only [List.length_nil,lbaseE,laEs] at *;omega)) (fun h => absurd rfl h)) (fun _ => fun x m h => lwt_must (lwt_name fun s => lwt_must fun y m2 h2 => lwt_must (lwt_ret (by simp only [List.length_nil,lbaseE,laE,laEs,laAs] at *;omega)))))
 | recL a ls args =>
  unfold body
  refine lwt_name fun s => lwt_must fun x m h => lwt_may ?_ ?_
  ·exact fun y m2 h2 => lwt_ret (by simp only [List.length_nil,List.length_append,List.length_cons,lbaseE,laEs_app,laEs] at *;omega)
  ·exact lwt_must (lwt_ret (by simp only [List.length_nil,List.length_append,List.length_cons,lbaseE,laEs_app,laEs,laE,laAs] at *;omega))
def laR:Rs→Nat
 | .e x => laE x
 | .p x => laP x
theorem Run.laCost {ts:List Tok} {c:Cmd} {st:St} {r:Rs} {st':St} (h:Run ts c st r st'):∀ {b:Nat},lWt b c→st'.ok = true→laR r + 1≤b + 2 * (st'.i - st.i):=by
 induction h with
 | retE => intro b hw _;simp only [lWt] at hw;simp only [laR];omega
 | retP => intro b hw _;simp only [lWt] at hw;simp only [laR];omega
 | look h hk ih => intro b hw hok;have:=hk.grows.2 hok;exact ih (by rw [this];exact hw _) hok
 | ahead h hk ih => intro b hw hok;exact ih (hw _) hok
 | adv hk ih =>
  intro b hw hok
  have h1:=ih (b:=b + 2) hw hok
  have h2:=hk.grows.1
  simp only at h1 h2
  omega
 | fail hk ih => intro b hw hok;have:=hk.grows.2 hok;cases this
 | @callE nt k st x st1 r st' h hk ih1 ih2 =>
  intro b hw hok
  have h1:=ih1 (lwtE nt) (hk.grows.2 hok)
  have h2:=ih2 (b:=b + 2 * (st1.i - st.i)) (hw x _ h1) hok
  have h3:=h.grows.1
  have h4:=hk.grows.1
  omega
 | @callP nt k st x st1 r st' h hk ih1 ih2 =>
  intro b hw hok
  have h1:=ih1 (lwtP nt) (hk.grows.2 hok)
  have h2:=ih2 (b:=b + 2 * (st1.i - st.i)) (hw x _ h1) hok
  have h3:=h.grows.1
  have h4:=hk.grows.1
  omega
end Go.Proofs.YtpjkfeehgookkaaGreatDoor
namespace Go.Proofs.YtpjkfeehgookkaaGreatDoor
open Go.RowKit
attribute [local go_sem ↓] Go.wp_at_zero Go.wp_at_succ
def SMP (N:Nat):Prop:=∀ (k a a':Int) (nm:List UInt8) (n:Int) (s:List UInt8) (ls:List (List UInt8)) (args args':List PatT) (A5 A5':Option Addr) (cc5 cc5':Nat) (A6 A6':Option Addr) (cc6 cc6':Nat) (pl:Bool) (w:World) (ok ok':Nat→Prop),laP (.mk k a nm n s ls args) < N →
  laP (.mk k a nm n s ls args)≤1099511627776→PatAt w ok (.mk k a nm n s ls args) [.int .i64 k,.int .i64 a,.string ⟨nm.toArray⟩,.int .i64 n,.string ⟨s.toArray⟩,.slice A5 ls.length cc5,.slice A6 args.length cc6]→PatAt w ok' (.mk k a' nm n s ls args') [.int .i64 k,.int .i64 a',.string ⟨nm.toArray⟩,.int .i64 n,.string ⟨s.toArray⟩,.slice A5' ls.length cc5',.slice A6' args.length cc6']→SL SameP args args'→(pl = true→a = a'∧args = args') →
  Calls Tryz.prog 25 #[.agg #[.int .i64 k,.int .i64 a,.string ⟨nm.toArray⟩,.int .i64 n,.string ⟨s.toArray⟩,.slice A5 ls.length cc5,.slice A6 args.length cc6],.agg #[.int .i64 k,.int .i64 a',.string ⟨nm.toArray⟩,.int .i64 n,.string ⟨s.toArray⟩,.slice A5' ls.length cc5',.slice A6' args.length cc6'],.bool pl] w fun e w' => e = .returned (.bool true)∧Fr [] w w'
set_option maxHeartbeats 8000000 in
set_option maxRecDepth 100000 in
theorem samep_step (N:Nat) (ih:SMP N):SMP (N + 1):=by
 intro k a a' nm n s ls args args' A5 A5' cc5 cc5' A6 A6' cc6 cc6' pl w ok ok' hN hz hx hy hS hp
 cases hx with
 | mk c5 c6 h5 e5 h6 e6 =>
 cases hy with
 | mk d5 d6 h5' e5' h6' e6' =>
 rw [← hS.1] at h6'
 have hsz:laP (.mk k a nm n s ls args) = 1 + ls.length + laPs args:=by simp [laP]
 rw [hsz] at hN hz
 have hm6:(args.length:Int)≤1099511627776:=by have:=laPs_ge args;omega
 have hm5:(ls.length:Int)≤1099511627776:=by omega
 have IH:=Lib.hid ih
 have H6:=Lib.hid h6
 have H6':=Lib.hid h6'
 have E6:Hid (∀ (i:Nat) (x:PatT),args[i]? = some x→PatAt w ok x (c6 i)):=Lib.hid e6
 have E6':Hid (∀ (i:Nat) (x:PatT),args'[i]? = some x→PatAt w ok' x (d6 i)):=Lib.hid e6'
 have HS:=Lib.hid hS
 have HP:=Lib.hid hp
 have cT:=fun W (hW:Fr [] w W) => Lib.hid (texts_any ls (by omega) A5 A5' cc5 cc5' W (h5.keep (ok':=ok) (Sh.of_fr hW (fun b hb _ => ⟨hb,fun x => by cases x⟩))) e5 (h5'.keep (ok':=ok') (Sh.of_fr hW (fun b hb _ => ⟨hb,fun x => by cases x⟩))) e5')
 clear ih h5 e5 h6 e6 h5' e5' h6' e6' hS hp
 have f0:Fr [] w ((w.alloc (.cells #[.int .i64 k,.int .i64 a,.string ⟨nm.toArray⟩,.int .i64 n,.string ⟨s.toArray⟩,.slice A5 ls.length cc5,.slice A6 args.length cc6] 62)).alloc (.cells #[.int .i64 k,.int .i64 a',.string ⟨nm.toArray⟩,.int .i64 n,.string ⟨s.toArray⟩,.slice A5' ls.length cc5',.slice A6' args.length cc6'] 62)):=((Fr.refl [] w).alloc _).alloc _
 have q3:=heap_old (heap_new w (.cells #[.int .i64 k,.int .i64 a,.string ⟨nm.toArray⟩,.int .i64 n,.string ⟨s.toArray⟩,.slice A5 ls.length cc5,.slice A6 args.length cc6] 62)) (.cells #[.int .i64 k,.int .i64 a',.string ⟨nm.toArray⟩,.int .i64 n,.string ⟨s.toArray⟩,.slice A5' ls.length cc5',.slice A6' args.length cc6'] 62)
 have q4:=heap_new (w.alloc (.cells #[.int .i64 k,.int .i64 a,.string ⟨nm.toArray⟩,.int .i64 n,.string ⟨s.toArray⟩,.slice A5 ls.length cc5,.slice A6 args.length cc6] 62)) (.cells #[.int .i64 k,.int .i64 a',.string ⟨nm.toArray⟩,.int .i64 n,.string ⟨s.toArray⟩,.slice A5' ls.length cc5',.slice A6' args.length cc6'] 62)
 have hs1:(w.alloc (.cells #[.int .i64 k,.int .i64 a,.string ⟨nm.toArray⟩,.int .i64 n,.string ⟨s.toArray⟩,.slice A5 ls.length cc5,.slice A6 args.length cc6] 62)).heap.size = w.heap.size + 1:=by simp
 rw [hs1] at q4
 have hs2:((w.alloc (.cells #[.int .i64 k,.int .i64 a,.string ⟨nm.toArray⟩,.int .i64 n,.string ⟨s.toArray⟩,.slice A5 ls.length cc5,.slice A6 args.length cc6] 62)).alloc (.cells #[.int .i64 k,.int .i64 a',.string ⟨nm.toArray⟩,.int .i64 n,.string ⟨s.toArray⟩,.slice A5' ls.length cc5',.slice A6' args.length cc6'] 62)).heap.size = w.heap.size + 2:=by simp
 have HQ3:=Lib.hid q3
 have HQ4:=Lib.hid q4
 clear q3 q4 hs1
 have hpl:pl = true→a = a':=fun h => (HP.out h).1
 cases pl with
 | true =>
  obtain rfl:=hpl rfl
  clear hpl
  go_enter Tryz.func25,Tryz.ntmps25
  go_wp2_with fail
  refine (cT _ f0).out.mono ?_
  rintro e w1 ⟨rfl,f1⟩
  clear cT
  have f:=f0.trans f1
  have q3:=f1.keep HQ3.out (fun x => by cases x)
  have q4:=f1.keep HQ4.out (fun x => by cases x)
  have hT2:w.heap.size + 2≤w1.heap.size:=by have:=f1.size;omega
  clear f0 f1 HQ3 HQ4 hs2
  have t6:w1.cell? ⟨w.heap.size,6,none⟩ = some (.slice A6 args.length cc6):=cell_of q3 6
  have t6':w1.cell? ⟨w.heap.size + 1,6,none⟩ = some (.slice A6' args.length cc6'):=cell_of q4 6
  have hTa:w.heap.size < w1.heap.size:=by omega
  have hTb:w.heap.size + 1 < w1.heap.size:=by omega
  go_wp2_with fail
  clear t6 t6' hTa hTb
  go_loopw [7] (fun iv wr => ∃ i:Nat,iv = .int .i64 i∧i≤args.length∧Fr [] w1 wr) (fun iv wr => args.length - (intOf iv).toNat)
  case atStart => exact ⟨0,rfl,by omega,Fr.refl _ _⟩
  case round =>
   obtain ⟨i,rfl,hi,fr⟩:=hrel
   have q3:=fr.keep q3 (fun x => by cases x)
   have q4:=fr.keep q4 (fun x => by cases x)
   have f:=f.trans fr
   have hTw:w.heap.size + 2≤wr.heap.size:=by have:=fr.size;omega
   generalize hT:w.heap.size = T at *
   have t6:wr.cell? ⟨T,6,none⟩ = some (.slice A6 args.length cc6):=cell_of q3 6
   have t6':wr.cell? ⟨T + 1,6,none⟩ = some (.slice A6' args.length cc6'):=cell_of q4 6
   have hTa:T < wr.heap.size:=by omega
   have hTb:T + 1 < wr.heap.size:=by omega
   by_cases hlt:i < args.length
   ·obtain ⟨g,og,rfl,_,hg,_,_,hc⟩:=H6.out.row hlt
    obtain ⟨g',og',rfl,_,hg',_,_,hc'⟩:=H6'.out.row hlt
    obtain ⟨x,hx⟩:∃ x,args[i]? = some x:=⟨args[i],List.getElem?_eq_getElem hlt⟩
    obtain ⟨y,hy⟩:∃ y,args'[i]? = some y:=⟨args'[i]'(by rw [← HS.out.1];exact hlt),List.getElem?_eq_getElem _⟩
    have hxy:=HS.out.2 i x y hx hy
    have hpx:(true:Bool) = true→x = y:=fun h => by
     have:=(HP.out (by first | exact h | trivial | simp)).2
     rw [this,hy] at hx
     exact (Option.some.inj hx).symm
    have hxx:=E6.out i x hx
    have hyy:=E6'.out i y hy
    have hzx:=laPs_get hx
    clear hx hy
    generalize c6 i = ci at *
    generalize d6 i = di at *
    have hxw:=hxx.keep (w':=wr) (ok':=ok) (Sh.of_fr f (fun b hb _ => ⟨hb,fun x => by cases x⟩))
    have hyw:=hyy.keep (w':=wr) (ok':=ok') (Sh.of_fr f (fun b hb _ => ⟨hb,fun x => by cases x⟩))
    cases hxy with
    | @mk k2 a2 a2' nm2 n2 s2 ls2 args2 args2' hl2 hh2 =>
    cases hxx with
    | mk _ _ r5 _ r6 _ =>
    cases hyy with
    | mk _ _ r5' _ r6' _ =>
    have hf:∀ {v:Value} {n size:Nat} {cs:Nat→List Value} {o:Nat→Prop},SlAt w o v n size cs→∃ A c,v = .slice A n c:=fun h => h.form
    obtain ⟨A52,cc52,rfl⟩:=hf r5
    obtain ⟨A62,cc62,rfl⟩:=hf r6
    obtain ⟨A52',cc52',rfl⟩:=hf r5'
    obtain ⟨A62',cc62',rfl⟩:=hf r6'
    clear hf r5 r6 r5' r6'
    rw [← hl2] at hc' hyw
    have x0:wr.cell? ⟨g,og + i * 7,none⟩ = some (.int .i64 k2):=(f.cell (p:=⟨g,og + i * 7,none⟩) hg (fun x => by cases x)).trans (hc 0 _ rfl)
    have x1:wr.cell? ⟨g,og + i * 7 + 1,none⟩ = some (.int .i64 a2):=(f.cell (p:=⟨g,og + i * 7 + 1,none⟩) hg (fun x => by cases x)).trans (hc 1 _ rfl)
    have x2:wr.cell? ⟨g,og + i * 7 + 2,none⟩ = some (.string ⟨nm2.toArray⟩):=(f.cell (p:=⟨g,og + i * 7 + 2,none⟩) hg (fun x => by cases x)).trans (hc 2 _ rfl)
    have x3:wr.cell? ⟨g,og + i * 7 + 3,none⟩ = some (.int .i64 n2):=(f.cell (p:=⟨g,og + i * 7 + 3,none⟩) hg (fun x => by cases x)).trans (hc 3 _ rfl)
    have x4:wr.cell? ⟨g,og + i * 7 + 4,none⟩ = some (.string ⟨s2.toArray⟩):=(f.cell (p:=⟨g,og + i * 7 + 4,none⟩) hg (fun x => by cases x)).trans (hc 4 _ rfl)
    have x5:wr.cell? ⟨g,og + i * 7 + 5,none⟩ = some (.slice A52 ls2.length cc52):=(f.cell (p:=⟨g,og + i * 7 + 5,none⟩) hg (fun x => by cases x)).trans (hc 5 _ rfl)
    have x6:wr.cell? ⟨g,og + i * 7 + 6,none⟩ = some (.slice A62 args2.length cc62):=(f.cell (p:=⟨g,og + i * 7 + 6,none⟩) hg (fun x => by cases x)).trans (hc 6 _ rfl)
    have y0:wr.cell? ⟨g',og' + i * 7,none⟩ = some (.int .i64 k2):=(f.cell (p:=⟨g',og' + i * 7,none⟩) hg' (fun x => by cases x)).trans (hc' 0 _ rfl)
    have y1:wr.cell? ⟨g',og' + i * 7 + 1,none⟩ = some (.int .i64 a2'):=(f.cell (p:=⟨g',og' + i * 7 + 1,none⟩) hg' (fun x => by cases x)).trans (hc' 1 _ rfl)
    have y2:wr.cell? ⟨g',og' + i * 7 + 2,none⟩ = some (.string ⟨nm2.toArray⟩):=(f.cell (p:=⟨g',og' + i * 7 + 2,none⟩) hg' (fun x => by cases x)).trans (hc' 2 _ rfl)
    have y3:wr.cell? ⟨g',og' + i * 7 + 3,none⟩ = some (.int .i64 n2):=(f.cell (p:=⟨g',og' + i * 7 + 3,none⟩) hg' (fun x => by cases x)).trans (hc' 3 _ rfl)
    have y4:wr.cell? ⟨g',og' + i * 7 + 4,none⟩ = some (.string ⟨s2.toArray⟩):=(f.cell (p:=⟨g',og' + i * 7 + 4,none⟩) hg' (fun x => by cases x)).trans (hc' 4 _ rfl)
    have y5:wr.cell? ⟨g',og' + i * 7 + 5,none⟩ = some (.slice A52' ls2.length cc52'):=(f.cell (p:=⟨g',og' + i * 7 + 5,none⟩) hg' (fun x => by cases x)).trans (hc' 5 _ rfl)
    have y6:wr.cell? ⟨g',og' + i * 7 + 6,none⟩ = some (.slice A62' args2.length cc62'):=(f.cell (p:=⟨g',og' + i * 7 + 6,none⟩) hg' (fun x => by cases x)).trans (hc' 6 _ rfl)
    clear hc hc'
    have hgw:g < wr.heap.size:=Nat.lt_of_lt_of_le hg f.size
    have hgw':g' < wr.heap.size:=Nat.lt_of_lt_of_le hg' f.size
    have cP:=Lib.hid (IH.out k2 a2 a2' nm2 n2 s2 ls2 args2 args2' A52 A52' cc52 cc52' A62 A62' cc62 cc62' true wr.drew ok ok' (by omega) (by omega) (hxw.keep (Sh.of_fr (Fr.refl [] wr).drew (fun b hb _ => ⟨hb,fun x => by cases x⟩))) (by rw [hl2];have:=hyw.keep (w':=wr.drew) (ok':=ok') (Sh.of_fr (Fr.refl [] wr).drew (fun b hb _ => ⟨hb,fun x => by cases x⟩));rw [hl2] at this;exact this) ⟨hl2,hh2⟩ (fun h => by have:=hpx h;cases this;exact ⟨rfl,rfl⟩))
    clear hxw hyw hpx hzx
    have q1:(0:Int)≤(i:Int):=by omega
    have q2:(i:Int) < (args.length:Int):=by omega
    have HH:=Lib.hid hh2
    have HL2:=Lib.hid hl2
    clear hh2 hl2
    go_wp2_with fail
    go_region_held3 (fun w' => w'.cell? ⟨T,6,none⟩ = some (.slice (some ⟨g,og,none⟩) args.length cc6)∧w'.cell? ⟨T + 1,6,none⟩ = some (.slice (some ⟨g',og',none⟩) args.length cc6')∧(w'.cell? ⟨g,og + i * 7,none⟩ = some (.int .i64 k2)∧w'.cell? ⟨g,og + i * 7 + 1,none⟩ = some (.int .i64 a2)∧w'.cell? ⟨g,og + i * 7 + 2,none⟩ = some (.string ⟨nm2.toArray⟩)∧w'.cell? ⟨g,og + i * 7 + 3,none⟩ = some (.int .i64 n2)∧w'.cell? ⟨g,og + i * 7 + 4,none⟩ = some (.string ⟨s2.toArray⟩)∧w'.cell? ⟨g,og + i * 7 + 5,none⟩ = some (.slice A52 ls2.length cc52)∧w'.cell? ⟨g,og + i * 7 + 6,none⟩ = some (.slice A62 args2.length cc62))∧(w'.cell? ⟨g',og' + i * 7,none⟩ = some (.int .i64 k2)∧w'.cell? ⟨g',og' + i * 7 + 1,none⟩ = some (.int .i64 a2')∧w'.cell? ⟨g',og' + i * 7 + 2,none⟩ = some (.string ⟨nm2.toArray⟩)∧w'.cell? ⟨g',og' + i * 7 + 3,none⟩ = some (.int .i64 n2)∧w'.cell? ⟨g',og' + i * 7 + 4,none⟩ = some (.string ⟨s2.toArray⟩)∧w'.cell? ⟨g',og' + i * 7 + 5,none⟩ = some (.slice A52' ls2.length cc52')∧w'.cell? ⟨g',og' + i * 7 + 6,none⟩ = some (.slice A62' args2.length cc62'))) (first | go_keep | exact ⟨t6,t6',⟨x0,x1,x2,x3,x4,x5,x6⟩,y0,y1,y2,y3,y4,y5,y6⟩) (((with_reducible refine cP.out.mono ?_);rintro e w3 ⟨rfl,f3⟩;have t6:=kc (w:=wr.drew) f3 t6 hTa;have t6':=kc (w:=wr.drew) f3 t6' hTb;have x0:=kc (w:=wr.drew) f3 x0 hgw;have y0:=kc (w:=wr.drew) f3 y0 hgw';have x1:=kc (w:=wr.drew) f3 x1 hgw;have y1:=kc (w:=wr.drew) f3 y1 hgw';have x2:=kc (w:=wr.drew) f3 x2 hgw;have y2:=kc (w:=wr.drew) f3 y2 hgw';have x3:=kc (w:=wr.drew) f3 x3 hgw;have y3:=kc (w:=wr.drew) f3 y3 hgw';have x4:=kc (w:=wr.drew) f3 x4 hgw;have y4:=kc (w:=wr.drew) f3 y4 hgw';have x5:=kc (w:=wr.drew) f3 x5 hgw;have y5:=kc (w:=wr.drew) f3 y5 hgw';have x6:=kc (w:=wr.drew) f3 x6 hgw;have y6:=kc (w:=wr.drew) f3 y6 hgw'))
    go_wp2_with fail
    go_roundw
    case rel => exact ⟨i + 1,by simp,by omega,fr.trans (((Fr.refl [] wr).drew).trans f3)⟩
    case measure => simp [intOf];omega
   ·have ei:i = args.length:=by omega
    subst ei
    go_wp2_with fail
    go_ret
    exact ⟨rfl,f⟩
 | false =>
  clear hpl
  go_enter Tryz.func25,Tryz.ntmps25
  go_wp2_with fail
  refine (cT _ f0).out.mono ?_
  rintro e w1 ⟨rfl,f1⟩
  clear cT
  have f:=f0.trans f1
  have q3:=f1.keep HQ3.out (fun x => by cases x)
  have q4:=f1.keep HQ4.out (fun x => by cases x)
  have hT2:w.heap.size + 2≤w1.heap.size:=by have:=f1.size;omega
  clear f0 f1 HQ3 HQ4 hs2
  have t6:w1.cell? ⟨w.heap.size,6,none⟩ = some (.slice A6 args.length cc6):=cell_of q3 6
  have t6':w1.cell? ⟨w.heap.size + 1,6,none⟩ = some (.slice A6' args.length cc6'):=cell_of q4 6
  have hTa:w.heap.size < w1.heap.size:=by omega
  have hTb:w.heap.size + 1 < w1.heap.size:=by omega
  go_wp2_with fail
  clear t6 t6' hTa hTb
  go_loopw [7] (fun iv wr => ∃ i:Nat,iv = .int .i64 i∧i≤args.length∧Fr [] w1 wr) (fun iv wr => args.length - (intOf iv).toNat)
  case atStart => exact ⟨0,rfl,by omega,Fr.refl _ _⟩
  case round =>
   obtain ⟨i,rfl,hi,fr⟩:=hrel
   have q3:=fr.keep q3 (fun x => by cases x)
   have q4:=fr.keep q4 (fun x => by cases x)
   have f:=f.trans fr
   have hTw:w.heap.size + 2≤wr.heap.size:=by have:=fr.size;omega
   generalize hT:w.heap.size = T at *
   have t6:wr.cell? ⟨T,6,none⟩ = some (.slice A6 args.length cc6):=cell_of q3 6
   have t6':wr.cell? ⟨T + 1,6,none⟩ = some (.slice A6' args.length cc6'):=cell_of q4 6
   have hTa:T < wr.heap.size:=by omega
   have hTb:T + 1 < wr.heap.size:=by omega
   by_cases hlt:i < args.length
   ·obtain ⟨g,og,rfl,_,hg,_,_,hc⟩:=H6.out.row hlt
    obtain ⟨g',og',rfl,_,hg',_,_,hc'⟩:=H6'.out.row hlt
    obtain ⟨x,hx⟩:∃ x,args[i]? = some x:=⟨args[i],List.getElem?_eq_getElem hlt⟩
    obtain ⟨y,hy⟩:∃ y,args'[i]? = some y:=⟨args'[i]'(by rw [← HS.out.1];exact hlt),List.getElem?_eq_getElem _⟩
    have hxy:=HS.out.2 i x y hx hy
    have hpx:(false:Bool) = true→x = y:=fun h => by
     have:=(HP.out (by first | exact h | trivial | simp)).2
     rw [this,hy] at hx
     exact (Option.some.inj hx).symm
    have hxx:=E6.out i x hx
    have hyy:=E6'.out i y hy
    have hzx:=laPs_get hx
    clear hx hy
    generalize c6 i = ci at *
    generalize d6 i = di at *
    have hxw:=hxx.keep (w':=wr) (ok':=ok) (Sh.of_fr f (fun b hb _ => ⟨hb,fun x => by cases x⟩))
    have hyw:=hyy.keep (w':=wr) (ok':=ok') (Sh.of_fr f (fun b hb _ => ⟨hb,fun x => by cases x⟩))
    cases hxy with
    | @mk k2 a2 a2' nm2 n2 s2 ls2 args2 args2' hl2 hh2 =>
    cases hxx with
    | mk _ _ r5 _ r6 _ =>
    cases hyy with
    | mk _ _ r5' _ r6' _ =>
    have hf:∀ {v:Value} {n size:Nat} {cs:Nat→List Value} {o:Nat→Prop},SlAt w o v n size cs→∃ A c,v = .slice A n c:=fun h => h.form
    obtain ⟨A52,cc52,rfl⟩:=hf r5
    obtain ⟨A62,cc62,rfl⟩:=hf r6
    obtain ⟨A52',cc52',rfl⟩:=hf r5'
    obtain ⟨A62',cc62',rfl⟩:=hf r6'
    clear hf r5 r6 r5' r6'
    rw [← hl2] at hc' hyw
    have x0:wr.cell? ⟨g,og + i * 7,none⟩ = some (.int .i64 k2):=(f.cell (p:=⟨g,og + i * 7,none⟩) hg (fun x => by cases x)).trans (hc 0 _ rfl)
    have x1:wr.cell? ⟨g,og + i * 7 + 1,none⟩ = some (.int .i64 a2):=(f.cell (p:=⟨g,og + i * 7 + 1,none⟩) hg (fun x => by cases x)).trans (hc 1 _ rfl)
    have x2:wr.cell? ⟨g,og + i * 7 + 2,none⟩ = some (.string ⟨nm2.toArray⟩):=(f.cell (p:=⟨g,og + i * 7 + 2,none⟩) hg (fun x => by cases x)).trans (hc 2 _ rfl)
    have x3:wr.cell? ⟨g,og + i * 7 + 3,none⟩ = some (.int .i64 n2):=(f.cell (p:=⟨g,og + i * 7 + 3,none⟩) hg (fun x => by cases x)).trans (hc 3 _ rfl)
    have x4:wr.cell? ⟨g,og + i * 7 + 4,none⟩ = some (.string ⟨s2.toArray⟩):=(f.cell (p:=⟨g,og + i * 7 + 4,none⟩) hg (fun x => by cases x)).trans (hc 4 _ rfl)
    have x5:wr.cell? ⟨g,og + i * 7 + 5,none⟩ = some (.slice A52 ls2.length cc52):=(f.cell (p:=⟨g,og + i * 7 + 5,none⟩) hg (fun x => by cases x)).trans (hc 5 _ rfl)
    have x6:wr.cell? ⟨g,og + i * 7 + 6,none⟩ = some (.slice A62 args2.length cc62):=(f.cell (p:=⟨g,og + i * 7 + 6,none⟩) hg (fun x => by cases x)).trans (hc 6 _ rfl)
    have y0:wr.cell? ⟨g',og' + i * 7,none⟩ = some (.int .i64 k2):=(f.cell (p:=⟨g',og' + i * 7,none⟩) hg' (fun x => by cases x)).trans (hc' 0 _ rfl)
    have y1:wr.cell? ⟨g',og' + i * 7 + 1,none⟩ = some (.int .i64 a2'):=(f.cell (p:=⟨g',og' + i * 7 + 1,none⟩) hg' (fun x => by cases x)).trans (hc' 1 _ rfl)
    have y2:wr.cell? ⟨g',og' + i * 7 + 2,none⟩ = some (.string ⟨nm2.toArray⟩):=(f.cell (p:=⟨g',og' + i * 7 + 2,none⟩) hg' (fun x => by cases x)).trans (hc' 2 _ rfl)
    have y3:wr.cell? ⟨g',og' + i * 7 + 3,none⟩ = some (.int .i64 n2):=(f.cell (p:=⟨g',og' + i * 7 + 3,none⟩) hg' (fun x => by cases x)).trans (hc' 3 _ rfl)
    have y4:wr.cell? ⟨g',og' + i * 7 + 4,none⟩ = some (.string ⟨s2.toArray⟩):=(f.cell (p:=⟨g',og' + i * 7 + 4,none⟩) hg' (fun x => by cases x)).trans (hc' 4 _ rfl)
    have y5:wr.cell? ⟨g',og' + i * 7 + 5,none⟩ = some (.slice A52' ls2.length cc52'):=(f.cell (p:=⟨g',og' + i * 7 + 5,none⟩) hg' (fun x => by cases x)).trans (hc' 5 _ rfl)
    have y6:wr.cell? ⟨g',og' + i * 7 + 6,none⟩ = some (.slice A62' args2.length cc62'):=(f.cell (p:=⟨g',og' + i * 7 + 6,none⟩) hg' (fun x => by cases x)).trans (hc' 6 _ rfl)
    clear hc hc'
    have hgw:g < wr.heap.size:=Nat.lt_of_lt_of_le hg f.size
    have hgw':g' < wr.heap.size:=Nat.lt_of_lt_of_le hg' f.size
    have cP:=Lib.hid (IH.out k2 a2 a2' nm2 n2 s2 ls2 args2 args2' A52 A52' cc52 cc52' A62 A62' cc62 cc62' false wr.drew ok ok' (by omega) (by omega) (hxw.keep (Sh.of_fr (Fr.refl [] wr).drew (fun b hb _ => ⟨hb,fun x => by cases x⟩))) (by rw [hl2];have:=hyw.keep (w':=wr.drew) (ok':=ok') (Sh.of_fr (Fr.refl [] wr).drew (fun b hb _ => ⟨hb,fun x => by cases x⟩));rw [hl2] at this;exact this) ⟨hl2,hh2⟩ (fun h => by have:=hpx h;cases this;exact ⟨rfl,rfl⟩))
    clear hxw hyw hpx hzx
    have q1:(0:Int)≤(i:Int):=by omega
    have q2:(i:Int) < (args.length:Int):=by omega
    have HH:=Lib.hid hh2
    have HL2:=Lib.hid hl2
    clear hh2 hl2
    go_wp2_with fail
    go_region_held3 (fun w' => w'.cell? ⟨T,6,none⟩ = some (.slice (some ⟨g,og,none⟩) args.length cc6)∧w'.cell? ⟨T + 1,6,none⟩ = some (.slice (some ⟨g',og',none⟩) args.length cc6')∧(w'.cell? ⟨g,og + i * 7,none⟩ = some (.int .i64 k2)∧w'.cell? ⟨g,og + i * 7 + 1,none⟩ = some (.int .i64 a2)∧w'.cell? ⟨g,og + i * 7 + 2,none⟩ = some (.string ⟨nm2.toArray⟩)∧w'.cell? ⟨g,og + i * 7 + 3,none⟩ = some (.int .i64 n2)∧w'.cell? ⟨g,og + i * 7 + 4,none⟩ = some (.string ⟨s2.toArray⟩)∧w'.cell? ⟨g,og + i * 7 + 5,none⟩ = some (.slice A52 ls2.length cc52)∧w'.cell? ⟨g,og + i * 7 + 6,none⟩ = some (.slice A62 args2.length cc62))∧(w'.cell? ⟨g',og' + i * 7,none⟩ = some (.int .i64 k2)∧w'.cell? ⟨g',og' + i * 7 + 1,none⟩ = some (.int .i64 a2')∧w'.cell? ⟨g',og' + i * 7 + 2,none⟩ = some (.string ⟨nm2.toArray⟩)∧w'.cell? ⟨g',og' + i * 7 + 3,none⟩ = some (.int .i64 n2)∧w'.cell? ⟨g',og' + i * 7 + 4,none⟩ = some (.string ⟨s2.toArray⟩)∧w'.cell? ⟨g',og' + i * 7 + 5,none⟩ = some (.slice A52' ls2.length cc52')∧w'.cell? ⟨g',og' + i * 7 + 6,none⟩ = some (.slice A62' args2.length cc62'))) (first | go_keep | exact ⟨t6,t6',⟨x0,x1,x2,x3,x4,x5,x6⟩,y0,y1,y2,y3,y4,y5,y6⟩) (((with_reducible refine cP.out.mono ?_);rintro e w3 ⟨rfl,f3⟩;have t6:=kc (w:=wr.drew) f3 t6 hTa;have t6':=kc (w:=wr.drew) f3 t6' hTb;have x0:=kc (w:=wr.drew) f3 x0 hgw;have y0:=kc (w:=wr.drew) f3 y0 hgw';have x1:=kc (w:=wr.drew) f3 x1 hgw;have y1:=kc (w:=wr.drew) f3 y1 hgw';have x2:=kc (w:=wr.drew) f3 x2 hgw;have y2:=kc (w:=wr.drew) f3 y2 hgw';have x3:=kc (w:=wr.drew) f3 x3 hgw;have y3:=kc (w:=wr.drew) f3 y3 hgw';have x4:=kc (w:=wr.drew) f3 x4 hgw;have y4:=kc (w:=wr.drew) f3 y4 hgw';have x5:=kc (w:=wr.drew) f3 x5 hgw;have y5:=kc (w:=wr.drew) f3 y5 hgw';have x6:=kc (w:=wr.drew) f3 x6 hgw;have y6:=kc (w:=wr.drew) f3 y6 hgw'))
    go_wp2_with fail
    go_roundw
    case rel => exact ⟨i + 1,by simp,by omega,fr.trans (((Fr.refl [] wr).drew).trans f3)⟩
    case measure => simp [intOf];omega
   ·have ei:i = args.length:=by omega
    subst ei
    go_wp2_with fail
    go_ret
    exact ⟨rfl,f⟩
theorem samep_all:∀ N,SMP N
 | 0 => fun _ _ _ _ _ _ _ _ _ _ _ _ _ _ _ _ _ _ _ _ _ h => absurd h (Nat.not_lt_zero _)
 | N + 1 => samep_step N (samep_all N)
end Go.Proofs.YtpjkfeehgookkaaGreatDoor
namespace Go.Proofs.YtpjkfeehgookkaaGreatDoor
open Go.RowKit
attribute [local go_sem ↓] Go.wp_at_zero Go.wp_at_succ
def SME (N:Nat):Prop:=∀ (k a a':Int) (nm:List UInt8) (n:Int) (s:List UInt8) (ls:List (List UInt8)) (args args':List ExprT) (arms arms':List (PatT × ExprT)) (A5 A5':Option Addr) (cc5 cc5':Nat) (A6 A6':Option Addr) (cc6 cc6':Nat) (A7 A7':Option Addr) (cc7 cc7':Nat) (pl:Bool) (w:World) (ok ok':Nat→Prop),laE (.mk k a nm n s ls args arms) < N →
  laE (.mk k a nm n s ls args arms)≤1099511627776→ExprAt w ok (.mk k a nm n s ls args arms) [.int .i64 k,.int .i64 a,.string ⟨nm.toArray⟩,.int .i64 n,.string ⟨s.toArray⟩,.slice A5 ls.length cc5,.slice A6 args.length cc6,.slice A7 arms.length cc7]→ExprAt w ok' (.mk k a' nm n s ls args' arms') [.int .i64 k,.int .i64 a',.string ⟨nm.toArray⟩,.int .i64 n,.string ⟨s.toArray⟩,.slice A5' ls.length cc5',.slice A6' args.length cc6',.slice A7' arms.length cc7']→SL SameE args args'→SL SameA arms arms'→(pl = true→a = a'∧args = args'∧arms = arms') →
  Calls Tryz.prog 14 #[.agg #[.int .i64 k,.int .i64 a,.string ⟨nm.toArray⟩,.int .i64 n,.string ⟨s.toArray⟩,.slice A5 ls.length cc5,.slice A6 args.length cc6,.slice A7 arms.length cc7],.agg #[.int .i64 k,.int .i64 a',.string ⟨nm.toArray⟩,.int .i64 n,.string ⟨s.toArray⟩,.slice A5' ls.length cc5',.slice A6' args.length cc6',.slice A7' arms.length cc7'],.bool pl] w fun e w' => e = .returned (.bool true)∧Fr [] w w'
set_option maxHeartbeats 16000000 in
set_option maxRecDepth 100000 in
theorem same_true (N:Nat) (ih:SME N) (k a a':Int) (nm:List UInt8) (n:Int) (s:List UInt8) (ls:List (List UInt8)) (args args':List ExprT) (arms arms':List (PatT × ExprT)) (A5 A5':Option Addr) (cc5 cc5':Nat) (A6 A6':Option Addr) (cc6 cc6':Nat) (A7 A7':Option Addr) (cc7 cc7':Nat) (w:World) (ok ok':Nat→Prop) (hN:laE (.mk k a nm n s ls args arms) < N + 1)
  (hz:laE (.mk k a nm n s ls args arms)≤1099511627776) (hx:ExprAt w ok (.mk k a nm n s ls args arms) [.int .i64 k,.int .i64 a,.string ⟨nm.toArray⟩,.int .i64 n,.string ⟨s.toArray⟩,.slice A5 ls.length cc5,.slice A6 args.length cc6,.slice A7 arms.length cc7]) (hy:ExprAt w ok' (.mk k a' nm n s ls args' arms') [.int .i64 k,.int .i64 a',.string ⟨nm.toArray⟩,.int .i64 n,.string ⟨s.toArray⟩,.slice A5' ls.length cc5',.slice A6' args.length cc6',.slice A7' arms.length cc7']) (hS:SL SameE args args') (hM:SL SameA arms arms') (hp:(true:Bool) = true→a = a'∧args = args'∧arms = arms') :
  Calls Tryz.prog 14 #[.agg #[.int .i64 k,.int .i64 a,.string ⟨nm.toArray⟩,.int .i64 n,.string ⟨s.toArray⟩,.slice A5 ls.length cc5,.slice A6 args.length cc6,.slice A7 arms.length cc7],.agg #[.int .i64 k,.int .i64 a',.string ⟨nm.toArray⟩,.int .i64 n,.string ⟨s.toArray⟩,.slice A5' ls.length cc5',.slice A6' args.length cc6',.slice A7' arms.length cc7'],.bool true] w fun e w' => e = .returned (.bool true)∧Fr [] w w':=by
 cases hx with
 | mk c5 c6 cp ce h5 e5 h6 e6 h7 e7 e8 =>
 cases hy with
 | mk d5 d6 dp de h5' e5' h6' e6' h7' e7' e8' =>
 rw [← hS.1] at h6'
 rw [← hM.1] at h7'
 have hsz:laE (.mk k a nm n s ls args arms) = 1 + ls.length + (laEs args + laAs arms):=by simp [laE]
 rw [hsz] at hN hz
 have hm6:(args.length:Int)≤1099511627776:=by have:=laEs_ge args;omega
 have hm7:(arms.length:Int)≤1099511627776:=by have:=laAs_ge arms;omega
 have hm5:(ls.length:Int)≤1099511627776:=by omega
 have IH:=Lib.hid ih
 have H6:=Lib.hid h6
 have H6':=Lib.hid h6'
 have H7:=Lib.hid h7
 have H7':=Lib.hid h7'
 have E6:Hid (∀ (i:Nat) (x:ExprT),args[i]? = some x→ExprAt w ok x (c6 i)):=Lib.hid e6
 have E6':Hid (∀ (i:Nat) (x:ExprT),args'[i]? = some x→ExprAt w ok' x (d6 i)):=Lib.hid e6'
 have E7:Hid (∀ (i:Nat) (p:PatT) (x:ExprT),arms[i]? = some (p,x)→PatAt w ok p (cp i)):=Lib.hid e7
 have E7':Hid (∀ (i:Nat) (p:PatT) (x:ExprT),arms'[i]? = some (p,x)→PatAt w ok' p (dp i)):=Lib.hid e7'
 have E8:Hid (∀ (i:Nat) (p:PatT) (x:ExprT),arms[i]? = some (p,x)→ExprAt w ok x (ce i)):=Lib.hid e8
 have E8':Hid (∀ (i:Nat) (p:PatT) (x:ExprT),arms'[i]? = some (p,x)→ExprAt w ok' x (de i)):=Lib.hid e8'
 have HS:=Lib.hid hS
 have HM:=Lib.hid hM
 have HP:Hid ((true:Bool) = true→a = a'∧args = args'∧arms = arms'):=Lib.hid hp
 have cT:=fun W (hW:Fr [] w W) => Lib.hid (texts_any ls (by omega) A5 A5' cc5 cc5' W (h5.keep (ok':=ok) (Sh.of_fr hW (fun b hb _ => ⟨hb,fun x => by cases x⟩))) e5 (h5'.keep (ok':=ok') (Sh.of_fr hW (fun b hb _ => ⟨hb,fun x => by cases x⟩))) e5')
 clear ih h5 e5 h6 e6 h7 e7 e8 h5' e5' h6' e6' h7' e7' e8' hS hM hp
 have f0:Fr [] w ((w.alloc (.cells #[.int .i64 k,.int .i64 a,.string ⟨nm.toArray⟩,.int .i64 n,.string ⟨s.toArray⟩,.slice A5 ls.length cc5,.slice A6 args.length cc6,.slice A7 arms.length cc7] 27)).alloc (.cells #[.int .i64 k,.int .i64 a',.string ⟨nm.toArray⟩,.int .i64 n,.string ⟨s.toArray⟩,.slice A5' ls.length cc5',.slice A6' args.length cc6',.slice A7' arms.length cc7'] 27)):=((Fr.refl [] w).alloc _).alloc _
 have q3:=heap_old (heap_new w (.cells #[.int .i64 k,.int .i64 a,.string ⟨nm.toArray⟩,.int .i64 n,.string ⟨s.toArray⟩,.slice A5 ls.length cc5,.slice A6 args.length cc6,.slice A7 arms.length cc7] 27)) (.cells #[.int .i64 k,.int .i64 a',.string ⟨nm.toArray⟩,.int .i64 n,.string ⟨s.toArray⟩,.slice A5' ls.length cc5',.slice A6' args.length cc6',.slice A7' arms.length cc7'] 27)
 have q4:=heap_new (w.alloc (.cells #[.int .i64 k,.int .i64 a,.string ⟨nm.toArray⟩,.int .i64 n,.string ⟨s.toArray⟩,.slice A5 ls.length cc5,.slice A6 args.length cc6,.slice A7 arms.length cc7] 27)) (.cells #[.int .i64 k,.int .i64 a',.string ⟨nm.toArray⟩,.int .i64 n,.string ⟨s.toArray⟩,.slice A5' ls.length cc5',.slice A6' args.length cc6',.slice A7' arms.length cc7'] 27)
 have hs1:(w.alloc (.cells #[.int .i64 k,.int .i64 a,.string ⟨nm.toArray⟩,.int .i64 n,.string ⟨s.toArray⟩,.slice A5 ls.length cc5,.slice A6 args.length cc6,.slice A7 arms.length cc7] 27)).heap.size = w.heap.size + 1:=by simp
 rw [hs1] at q4
 have hs2:((w.alloc (.cells #[.int .i64 k,.int .i64 a,.string ⟨nm.toArray⟩,.int .i64 n,.string ⟨s.toArray⟩,.slice A5 ls.length cc5,.slice A6 args.length cc6,.slice A7 arms.length cc7] 27)).alloc (.cells #[.int .i64 k,.int .i64 a',.string ⟨nm.toArray⟩,.int .i64 n,.string ⟨s.toArray⟩,.slice A5' ls.length cc5',.slice A6' args.length cc6',.slice A7' arms.length cc7'] 27)).heap.size = w.heap.size + 2:=by simp
 have HQ3:=Lib.hid q3
 have HQ4:=Lib.hid q4
 clear q3 q4 hs1
 obtain rfl:a = a':=(HP.out rfl).1
 go_enter Tryz.func14,Tryz.ntmps14
 go_wp2_with fail
 refine (cT _ f0).out.mono ?_
 rintro e w1 ⟨rfl,f1⟩
 clear cT
 have f:=f0.trans f1
 have q3:=f1.keep HQ3.out (fun x => by cases x)
 have q4:=f1.keep HQ4.out (fun x => by cases x)
 have hT2:w.heap.size + 2≤w1.heap.size:=by have:=f1.size;omega
 clear f0 f1 HQ3 HQ4 hs2
 have t6:w1.cell? ⟨w.heap.size,6,none⟩ = some (.slice A6 args.length cc6):=cell_of q3 6
 have t6':w1.cell? ⟨w.heap.size + 1,6,none⟩ = some (.slice A6' args.length cc6'):=cell_of q4 6
 have t7:w1.cell? ⟨w.heap.size,7,none⟩ = some (.slice A7 arms.length cc7):=cell_of q3 7
 have t7':w1.cell? ⟨w.heap.size + 1,7,none⟩ = some (.slice A7' arms.length cc7'):=cell_of q4 7
 have hTa:w.heap.size < w1.heap.size:=by omega
 have hTb:w.heap.size + 1 < w1.heap.size:=by omega
 go_wp2_with fail
 clear t6 t6' t7 t7' hTa hTb
 go_loopw [7] (fun iv wr => ∃ i:Nat,iv = .int .i64 i∧i≤args.length∧Fr [] w1 wr) (fun iv wr => args.length - (intOf iv).toNat)
 case atStart => exact ⟨0,rfl,by omega,Fr.refl _ _⟩
 case round =>
  obtain ⟨i,rfl,hi,fr⟩:=hrel
  have q3:=fr.keep q3 (fun x => by cases x)
  have q4:=fr.keep q4 (fun x => by cases x)
  have f:=f.trans fr
  have hTw:w.heap.size + 2≤wr.heap.size:=by have:=fr.size;omega
  generalize hT:w.heap.size = T at *
  have t6:wr.cell? ⟨T,6,none⟩ = some (.slice A6 args.length cc6):=cell_of q3 6
  have t6':wr.cell? ⟨T + 1,6,none⟩ = some (.slice A6' args.length cc6'):=cell_of q4 6
  have hTa:T < wr.heap.size:=by omega
  have hTb:T + 1 < wr.heap.size:=by omega
  by_cases hlt:i < args.length
  ·obtain ⟨g,og,rfl,_,hg,_,_,hc⟩:=H6.out.row hlt
   obtain ⟨g',og',rfl,_,hg',_,_,hc'⟩:=H6'.out.row hlt
   obtain ⟨x,hx⟩:∃ x,args[i]? = some x:=⟨args[i],List.getElem?_eq_getElem hlt⟩
   obtain ⟨y,hy⟩:∃ y,args'[i]? = some y:=⟨args'[i]'(by rw [← HS.out.1];exact hlt),List.getElem?_eq_getElem _⟩
   have hxy:=HS.out.2 i x y hx hy
   have hpx:(true:Bool) = true→x = y:=fun h => by
    have:=(HP.out (by first | exact h | trivial | simp)).2.1
    rw [this,hy] at hx
    exact (Option.some.inj hx).symm
   have hxx:=E6.out i x hx
   have hyy:=E6'.out i y hy
   have hzx:=laEs_get hx
   clear hx hy
   generalize c6 i = ci at *
   generalize d6 i = di at *
   have hxw:=hxx.keep (w':=wr) (ok':=ok) (Sh.of_fr f (fun b hb _ => ⟨hb,fun x => by cases x⟩))
   have hyw:=hyy.keep (w':=wr) (ok':=ok') (Sh.of_fr f (fun b hb _ => ⟨hb,fun x => by cases x⟩))
   cases hxy with
   | @mk k2 a2 a2' nm2 n2 s2 ls2 args2 args2' arms2 arms2' hl2 hh2 hm2 hp2 hq2 =>
   cases hxx with
   | mk _ _ _ _ r52 _ r62 _ r72 _ _ =>
   cases hyy with
   | mk _ _ _ _ r52' _ r62' _ r72' _ _ =>
   have hf:∀ {v:Value} {n size:Nat} {cs:Nat→List Value} {o:Nat→Prop},SlAt w o v n size cs→∃ A c,v = .slice A n c:=fun h => h.form
   obtain ⟨A52,cc52,rfl⟩:=hf r52
   obtain ⟨A52',cc52',rfl⟩:=hf r52'
   obtain ⟨A62,cc62,rfl⟩:=hf r62
   obtain ⟨A62',cc62',rfl⟩:=hf r62'
   obtain ⟨A72,cc72,rfl⟩:=hf r72
   obtain ⟨A72',cc72',rfl⟩:=hf r72'
   clear hf r52 r62 r72 r52' r62' r72'
   rw [← hl2,← hm2] at hc' hyw
   have x0:wr.cell? ⟨g,og + i * 8,none⟩ = some (.int .i64 k2):=(f.cell (p:=⟨g,og + i * 8,none⟩) hg (fun x => by cases x)).trans (hc 0 _ rfl)
   have x1:wr.cell? ⟨g,og + i * 8 + 1,none⟩ = some (.int .i64 a2):=(f.cell (p:=⟨g,og + i * 8 + 1,none⟩) hg (fun x => by cases x)).trans (hc 1 _ rfl)
   have x2:wr.cell? ⟨g,og + i * 8 + 2,none⟩ = some (.string ⟨nm2.toArray⟩):=(f.cell (p:=⟨g,og + i * 8 + 2,none⟩) hg (fun x => by cases x)).trans (hc 2 _ rfl)
   have x3:wr.cell? ⟨g,og + i * 8 + 3,none⟩ = some (.int .i64 n2):=(f.cell (p:=⟨g,og + i * 8 + 3,none⟩) hg (fun x => by cases x)).trans (hc 3 _ rfl)
   have x4:wr.cell? ⟨g,og + i * 8 + 4,none⟩ = some (.string ⟨s2.toArray⟩):=(f.cell (p:=⟨g,og + i * 8 + 4,none⟩) hg (fun x => by cases x)).trans (hc 4 _ rfl)
   have x5:wr.cell? ⟨g,og + i * 8 + 5,none⟩ = some (.slice A52 ls2.length cc52):=(f.cell (p:=⟨g,og + i * 8 + 5,none⟩) hg (fun x => by cases x)).trans (hc 5 _ rfl)
   have x6:wr.cell? ⟨g,og + i * 8 + 6,none⟩ = some (.slice A62 args2.length cc62):=(f.cell (p:=⟨g,og + i * 8 + 6,none⟩) hg (fun x => by cases x)).trans (hc 6 _ rfl)
   have x7:wr.cell? ⟨g,og + i * 8 + 7,none⟩ = some (.slice A72 arms2.length cc72):=(f.cell (p:=⟨g,og + i * 8 + 7,none⟩) hg (fun x => by cases x)).trans (hc 7 _ rfl)
   have y0:wr.cell? ⟨g',og' + i * 8,none⟩ = some (.int .i64 k2):=(f.cell (p:=⟨g',og' + i * 8,none⟩) hg' (fun x => by cases x)).trans (hc' 0 _ rfl)
   have y1:wr.cell? ⟨g',og' + i * 8 + 1,none⟩ = some (.int .i64 a2'):=(f.cell (p:=⟨g',og' + i * 8 + 1,none⟩) hg' (fun x => by cases x)).trans (hc' 1 _ rfl)
   have y2:wr.cell? ⟨g',og' + i * 8 + 2,none⟩ = some (.string ⟨nm2.toArray⟩):=(f.cell (p:=⟨g',og' + i * 8 + 2,none⟩) hg' (fun x => by cases x)).trans (hc' 2 _ rfl)
   have y3:wr.cell? ⟨g',og' + i * 8 + 3,none⟩ = some (.int .i64 n2):=(f.cell (p:=⟨g',og' + i * 8 + 3,none⟩) hg' (fun x => by cases x)).trans (hc' 3 _ rfl)
   have y4:wr.cell? ⟨g',og' + i * 8 + 4,none⟩ = some (.string ⟨s2.toArray⟩):=(f.cell (p:=⟨g',og' + i * 8 + 4,none⟩) hg' (fun x => by cases x)).trans (hc' 4 _ rfl)
   have y5:wr.cell? ⟨g',og' + i * 8 + 5,none⟩ = some (.slice A52' ls2.length cc52'):=(f.cell (p:=⟨g',og' + i * 8 + 5,none⟩) hg' (fun x => by cases x)).trans (hc' 5 _ rfl)
   have y6:wr.cell? ⟨g',og' + i * 8 + 6,none⟩ = some (.slice A62' args2.length cc62'):=(f.cell (p:=⟨g',og' + i * 8 + 6,none⟩) hg' (fun x => by cases x)).trans (hc' 6 _ rfl)
   have y7:wr.cell? ⟨g',og' + i * 8 + 7,none⟩ = some (.slice A72' arms2.length cc72'):=(f.cell (p:=⟨g',og' + i * 8 + 7,none⟩) hg' (fun x => by cases x)).trans (hc' 7 _ rfl)
   clear hc hc'
   have hgw:g < wr.heap.size:=Nat.lt_of_lt_of_le hg f.size
   have hgw':g' < wr.heap.size:=Nat.lt_of_lt_of_le hg' f.size
   have cP:=fun W (hW:Fr [] wr W) => Lib.hid (IH.out k2 a2 a2' nm2 n2 s2 ls2 args2 args2' arms2 arms2' A52 A52' cc52 cc52' A62 A62' cc62 cc62' A72 A72' cc72 cc72' true W ok ok' (by omega) (by omega) (hxw.keep (Sh.of_fr hW (fun b hb _ => ⟨hb,fun x => by cases x⟩))) (hyw.keep (Sh.of_fr hW (fun b hb _ => ⟨hb,fun x => by cases x⟩))) ⟨hl2,hh2⟩ ⟨hm2,fun i u v hu hv => ⟨hp2 i u.1 v.1 u.2 v.2 hu hv,hq2 i u.1 v.1 u.2 v.2 hu hv⟩⟩ (fun h => by have:=hpx h;cases this;exact ⟨rfl,rfl,rfl⟩))
   have cP:=cP wr.drew (Fr.refl [] wr).drew
   clear hxw hyw hpx hzx
   have q1:(0:Int)≤(i:Int):=by omega
   have q2:(i:Int) < (args.length:Int):=by omega
   clear hh2 hl2 hm2 hp2 hq2
   go_wp2_with fail
   go_region_held3 (fun w' => w'.cell? ⟨T,6,none⟩ = some (.slice (some ⟨g,og,none⟩) args.length cc6)∧w'.cell? ⟨T + 1,6,none⟩ = some (.slice (some ⟨g',og',none⟩) args.length cc6')∧(w'.cell? ⟨g,og + i * 8,none⟩ = some (.int .i64 k2)∧w'.cell? ⟨g,og + i * 8 + 1,none⟩ = some (.int .i64 a2)∧w'.cell? ⟨g,og + i * 8 + 2,none⟩ = some (.string ⟨nm2.toArray⟩)∧w'.cell? ⟨g,og + i * 8 + 3,none⟩ = some (.int .i64 n2)∧w'.cell? ⟨g,og + i * 8 + 4,none⟩ = some (.string ⟨s2.toArray⟩)∧w'.cell? ⟨g,og + i * 8 + 5,none⟩ = some (.slice A52 ls2.length cc52)∧w'.cell? ⟨g,og + i * 8 + 6,none⟩ = some (.slice A62 args2.length cc62)∧w'.cell? ⟨g,og + i * 8 + 7,none⟩ = some (.slice A72 arms2.length cc72))∧(w'.cell? ⟨g',og' + i * 8,none⟩ = some (.int .i64 k2)∧w'.cell? ⟨g',og' + i * 8 + 1,none⟩ = some (.int .i64 a2')∧w'.cell? ⟨g',og' + i * 8 + 2,none⟩ = some (.string ⟨nm2.toArray⟩)∧w'.cell? ⟨g',og' + i * 8 + 3,none⟩ = some (.int .i64 n2)∧w'.cell? ⟨g',og' + i * 8 + 4,none⟩ = some (.string ⟨s2.toArray⟩)∧w'.cell? ⟨g',og' + i * 8 + 5,none⟩ = some (.slice A52' ls2.length cc52')∧w'.cell? ⟨g',og' + i * 8 + 6,none⟩ = some (.slice A62' args2.length cc62')∧w'.cell? ⟨g',og' + i * 8 + 7,none⟩ = some (.slice A72' arms2.length cc72'))) (first | go_keep | exact ⟨t6,t6',⟨x0,x1,x2,x3,x4,x5,x6,x7⟩,y0,y1,y2,y3,y4,y5,y6,y7⟩) (((with_reducible refine cP.out.mono ?_);rintro e w3 ⟨rfl,f3⟩;have t6:=kc (w:=wr.drew) f3 t6 hTa;have t6':=kc (w:=wr.drew) f3 t6' hTb;have x0:=kc (w:=wr.drew) f3 x0 hgw;have y0:=kc (w:=wr.drew) f3 y0 hgw';have x1:=kc (w:=wr.drew) f3 x1 hgw;have y1:=kc (w:=wr.drew) f3 y1 hgw';have x2:=kc (w:=wr.drew) f3 x2 hgw;have y2:=kc (w:=wr.drew) f3 y2 hgw';have x3:=kc (w:=wr.drew) f3 x3 hgw;have y3:=kc (w:=wr.drew) f3 y3 hgw';have x4:=kc (w:=wr.drew) f3 x4 hgw;have y4:=kc (w:=wr.drew) f3 y4 hgw';have x5:=kc (w:=wr.drew) f3 x5 hgw;have y5:=kc (w:=wr.drew) f3 y5 hgw';have x6:=kc (w:=wr.drew) f3 x6 hgw;have y6:=kc (w:=wr.drew) f3 y6 hgw';have x7:=kc (w:=wr.drew) f3 x7 hgw;have y7:=kc (w:=wr.drew) f3 y7 hgw'))
   go_wp2_with fail
   go_roundw
   case rel => exact ⟨i + 1,by simp,by omega,fr.trans (((Fr.refl [] wr).drew).trans f3)⟩
   case measure => simp [intOf];omega
  ·have ei:i = args.length:=by omega
   subst ei
   clear t6 t6'
   have t6:wr.cell? ⟨T,7,none⟩ = some (.slice A7 arms.length cc7):=cell_of q3 7
   have t6':wr.cell? ⟨T + 1,7,none⟩ = some (.slice A7' arms.length cc7'):=cell_of q4 7
   have t6a:wr.cell? ⟨T,6,none⟩ = some (.slice A6 args.length cc6):=cell_of q3 6
   go_wp2_with fail
   clear t6 t6' t6a
   have hw5:∃ w5,w5 = wr:=⟨_,rfl⟩
   obtain ⟨w5,hw5⟩:=hw5
   subst hw5
   go_loopw [8] (fun iv wq => ∃ i:Nat,iv = .int .i64 i∧i≤arms.length∧Fr [] w5 wq) (fun iv wq => arms.length - (intOf iv).toNat)
   case atStart => exact ⟨0,rfl,by omega,Fr.refl _ _⟩
   case round =>
    obtain ⟨i,rfl,hi',fq⟩:=hrel
    have q3:=fq.keep q3 (fun x => by cases x)
    have q4:=fq.keep q4 (fun x => by cases x)
    have f:=f.trans fq
    have hTw:T + 2≤wr.heap.size:=by have:=fq.size;omega
    have t6:wr.cell? ⟨T,7,none⟩ = some (.slice A7 arms.length cc7):=cell_of q3 7
    have t6':wr.cell? ⟨T + 1,7,none⟩ = some (.slice A7' arms.length cc7'):=cell_of q4 7
    clear hTa hTb
    have hTa:T < wr.heap.size:=by omega
    have hTb:T + 1 < wr.heap.size:=by omega
    by_cases hlt:i < arms.length
    ·obtain ⟨g,og,rfl,_,hg,_,_,hc⟩:=H7.out.row hlt
     obtain ⟨g',og',rfl,_,hg',_,_,hc'⟩:=H7'.out.row hlt
     obtain ⟨p,x,hx⟩:∃ p x,arms[i]? = some (p,x):=⟨(arms[i]).1,(arms[i]).2,List.getElem?_eq_getElem hlt⟩
     obtain ⟨p',y,hy⟩:∃ p' y,arms'[i]? = some (p',y):=⟨(arms'[i]'(by rw [← HM.out.1];exact hlt)).1,(arms'[i]'(by rw [← HM.out.1];exact hlt)).2,List.getElem?_eq_getElem _⟩
     have hxy:=(HM.out.2 i _ _ hx hy).2
     have hpp:=(HM.out.2 i _ _ hx hy).1
     have hpb:(true:Bool) = true→p = p'∧x = y:=fun h => by
      have:=(HP.out (by first | exact h | trivial | simp)).2.2
      rw [this,hy] at hx
      cases hx
      exact ⟨rfl,rfl⟩
     have hxx:=E8.out i p x hx
     have hyy:=E8'.out i p' y hy
     have hpx2:=E7.out i p x hx
     have hpy2:=E7'.out i p' y hy
     have hzx:=laAs_get hx
     clear hx hy
     simp only at hxy hpp hc hc'
     generalize cp i = ci at *
     generalize dp i = di at *
     generalize ce i = cj at *
     generalize de i = dj at *
     have hxw:=hxx.keep (w':=wr) (ok':=ok) (Sh.of_fr f (fun b hb _ => ⟨hb,fun x => by cases x⟩))
     have hyw:=hyy.keep (w':=wr) (ok':=ok') (Sh.of_fr f (fun b hb _ => ⟨hb,fun x => by cases x⟩))
     have hpw:=hpx2.keep (w':=wr) (ok':=ok) (Sh.of_fr f (fun b hb _ => ⟨hb,fun x => by cases x⟩))
     have hpw':=hpy2.keep (w':=wr) (ok':=ok') (Sh.of_fr f (fun b hb _ => ⟨hb,fun x => by cases x⟩))
     cases hpp with
     | @mk k3 a3 a3' nm3 n3 s3 ls3 args3 args3' hl3 hh3 =>
     cases hxy with
     | @mk k2 a2 a2' nm2 n2 s2 ls2 args2 args2' arms2 arms2' hl2 hh2 hm2 hp2 hq2 =>
     cases hpx2 with
     | mk _ _ r53 _ r63 _ =>
     cases hpy2 with
     | mk _ _ r53' _ r63' _ =>
     cases hxx with
     | mk _ _ _ _ r52 _ r62 _ r72 _ _ =>
     cases hyy with
     | mk _ _ _ _ r52' _ r62' _ r72' _ _ =>
     have hf:∀ {v:Value} {n size:Nat} {cs:Nat→List Value} {o:Nat→Prop},SlAt w o v n size cs→∃ A c,v = .slice A n c:=fun h => h.form
     obtain ⟨A53,cc53,rfl⟩:=hf r53
     obtain ⟨A53',cc53',rfl⟩:=hf r53'
     obtain ⟨A63,cc63,rfl⟩:=hf r63
     obtain ⟨A63',cc63',rfl⟩:=hf r63'
     obtain ⟨A52,cc52,rfl⟩:=hf r52
     obtain ⟨A52',cc52',rfl⟩:=hf r52'
     obtain ⟨A62,cc62,rfl⟩:=hf r62
     obtain ⟨A62',cc62',rfl⟩:=hf r62'
     obtain ⟨A72,cc72,rfl⟩:=hf r72
     obtain ⟨A72',cc72',rfl⟩:=hf r72'
     clear hf r52 r62 r72 r52' r62' r72' r53 r63 r53' r63'
     rw [← hl2,← hm2] at hyw
     rw [← hl2,← hm2,← hl3] at hc'
     rw [← hl3] at hpw'
     have x0:wr.cell? ⟨g,og + i * 15,none⟩ = some (.int .i64 k3):=(f.cell (p:=⟨g,og + i * 15,none⟩) hg (fun x => by cases x)).trans (hc 0 _ rfl)
     have x1:wr.cell? ⟨g,og + i * 15 + 1,none⟩ = some (.int .i64 a3):=(f.cell (p:=⟨g,og + i * 15 + 1,none⟩) hg (fun x => by cases x)).trans (hc 1 _ rfl)
     have x2:wr.cell? ⟨g,og + i * 15 + 2,none⟩ = some (.string ⟨nm3.toArray⟩):=(f.cell (p:=⟨g,og + i * 15 + 2,none⟩) hg (fun x => by cases x)).trans (hc 2 _ rfl)
     have x3:wr.cell? ⟨g,og + i * 15 + 3,none⟩ = some (.int .i64 n3):=(f.cell (p:=⟨g,og + i * 15 + 3,none⟩) hg (fun x => by cases x)).trans (hc 3 _ rfl)
     have x4:wr.cell? ⟨g,og + i * 15 + 4,none⟩ = some (.string ⟨s3.toArray⟩):=(f.cell (p:=⟨g,og + i * 15 + 4,none⟩) hg (fun x => by cases x)).trans (hc 4 _ rfl)
     have x5:wr.cell? ⟨g,og + i * 15 + 5,none⟩ = some (.slice A53 ls3.length cc53):=(f.cell (p:=⟨g,og + i * 15 + 5,none⟩) hg (fun x => by cases x)).trans (hc 5 _ rfl)
     have x6:wr.cell? ⟨g,og + i * 15 + 6,none⟩ = some (.slice A63 args3.length cc63):=(f.cell (p:=⟨g,og + i * 15 + 6,none⟩) hg (fun x => by cases x)).trans (hc 6 _ rfl)
     have x7:wr.cell? ⟨g,og + i * 15 + 7,none⟩ = some (.int .i64 k2):=(f.cell (p:=⟨g,og + i * 15 + 7,none⟩) hg (fun x => by cases x)).trans (hc 7 _ rfl)
     have x8:wr.cell? ⟨g,og + i * 15 + 8,none⟩ = some (.int .i64 a2):=(f.cell (p:=⟨g,og + i * 15 + 8,none⟩) hg (fun x => by cases x)).trans (hc 8 _ rfl)
     have x9:wr.cell? ⟨g,og + i * 15 + 9,none⟩ = some (.string ⟨nm2.toArray⟩):=(f.cell (p:=⟨g,og + i * 15 + 9,none⟩) hg (fun x => by cases x)).trans (hc 9 _ rfl)
     have x10:wr.cell? ⟨g,og + i * 15 + 10,none⟩ = some (.int .i64 n2):=(f.cell (p:=⟨g,og + i * 15 + 10,none⟩) hg (fun x => by cases x)).trans (hc 10 _ rfl)
     have x11:wr.cell? ⟨g,og + i * 15 + 11,none⟩ = some (.string ⟨s2.toArray⟩):=(f.cell (p:=⟨g,og + i * 15 + 11,none⟩) hg (fun x => by cases x)).trans (hc 11 _ rfl)
     have x12:wr.cell? ⟨g,og + i * 15 + 12,none⟩ = some (.slice A52 ls2.length cc52):=(f.cell (p:=⟨g,og + i * 15 + 12,none⟩) hg (fun x => by cases x)).trans (hc 12 _ rfl)
     have x13:wr.cell? ⟨g,og + i * 15 + 13,none⟩ = some (.slice A62 args2.length cc62):=(f.cell (p:=⟨g,og + i * 15 + 13,none⟩) hg (fun x => by cases x)).trans (hc 13 _ rfl)
     have x14:wr.cell? ⟨g,og + i * 15 + 14,none⟩ = some (.slice A72 arms2.length cc72):=(f.cell (p:=⟨g,og + i * 15 + 14,none⟩) hg (fun x => by cases x)).trans (hc 14 _ rfl)
     have y0:wr.cell? ⟨g',og' + i * 15,none⟩ = some (.int .i64 k3):=(f.cell (p:=⟨g',og' + i * 15,none⟩) hg' (fun x => by cases x)).trans (hc' 0 _ rfl)
     have y1:wr.cell? ⟨g',og' + i * 15 + 1,none⟩ = some (.int .i64 a3'):=(f.cell (p:=⟨g',og' + i * 15 + 1,none⟩) hg' (fun x => by cases x)).trans (hc' 1 _ rfl)
     have y2:wr.cell? ⟨g',og' + i * 15 + 2,none⟩ = some (.string ⟨nm3.toArray⟩):=(f.cell (p:=⟨g',og' + i * 15 + 2,none⟩) hg' (fun x => by cases x)).trans (hc' 2 _ rfl)
     have y3:wr.cell? ⟨g',og' + i * 15 + 3,none⟩ = some (.int .i64 n3):=(f.cell (p:=⟨g',og' + i * 15 + 3,none⟩) hg' (fun x => by cases x)).trans (hc' 3 _ rfl)
     have y4:wr.cell? ⟨g',og' + i * 15 + 4,none⟩ = some (.string ⟨s3.toArray⟩):=(f.cell (p:=⟨g',og' + i * 15 + 4,none⟩) hg' (fun x => by cases x)).trans (hc' 4 _ rfl)
     have y5:wr.cell? ⟨g',og' + i * 15 + 5,none⟩ = some (.slice A53' ls3.length cc53'):=(f.cell (p:=⟨g',og' + i * 15 + 5,none⟩) hg' (fun x => by cases x)).trans (hc' 5 _ rfl)
     have y6:wr.cell? ⟨g',og' + i * 15 + 6,none⟩ = some (.slice A63' args3.length cc63'):=(f.cell (p:=⟨g',og' + i * 15 + 6,none⟩) hg' (fun x => by cases x)).trans (hc' 6 _ rfl)
     have y7:wr.cell? ⟨g',og' + i * 15 + 7,none⟩ = some (.int .i64 k2):=(f.cell (p:=⟨g',og' + i * 15 + 7,none⟩) hg' (fun x => by cases x)).trans (hc' 7 _ rfl)
     have y8:wr.cell? ⟨g',og' + i * 15 + 8,none⟩ = some (.int .i64 a2'):=(f.cell (p:=⟨g',og' + i * 15 + 8,none⟩) hg' (fun x => by cases x)).trans (hc' 8 _ rfl)
     have y9:wr.cell? ⟨g',og' + i * 15 + 9,none⟩ = some (.string ⟨nm2.toArray⟩):=(f.cell (p:=⟨g',og' + i * 15 + 9,none⟩) hg' (fun x => by cases x)).trans (hc' 9 _ rfl)
     have y10:wr.cell? ⟨g',og' + i * 15 + 10,none⟩ = some (.int .i64 n2):=(f.cell (p:=⟨g',og' + i * 15 + 10,none⟩) hg' (fun x => by cases x)).trans (hc' 10 _ rfl)
     have y11:wr.cell? ⟨g',og' + i * 15 + 11,none⟩ = some (.string ⟨s2.toArray⟩):=(f.cell (p:=⟨g',og' + i * 15 + 11,none⟩) hg' (fun x => by cases x)).trans (hc' 11 _ rfl)
     have y12:wr.cell? ⟨g',og' + i * 15 + 12,none⟩ = some (.slice A52' ls2.length cc52'):=(f.cell (p:=⟨g',og' + i * 15 + 12,none⟩) hg' (fun x => by cases x)).trans (hc' 12 _ rfl)
     have y13:wr.cell? ⟨g',og' + i * 15 + 13,none⟩ = some (.slice A62' args2.length cc62'):=(f.cell (p:=⟨g',og' + i * 15 + 13,none⟩) hg' (fun x => by cases x)).trans (hc' 13 _ rfl)
     have y14:wr.cell? ⟨g',og' + i * 15 + 14,none⟩ = some (.slice A72' arms2.length cc72'):=(f.cell (p:=⟨g',og' + i * 15 + 14,none⟩) hg' (fun x => by cases x)).trans (hc' 14 _ rfl)
     clear hc hc'
     have hgw:g < wr.heap.size:=Nat.lt_of_lt_of_le hg f.size
     have hgw':g' < wr.heap.size:=Nat.lt_of_lt_of_le hg' f.size
     have hpx:(true:Bool) = true→ExprT.mk k2 a2 nm2 n2 s2 ls2 args2 arms2 = ExprT.mk k2 a2' nm2 n2 s2 ls2 args2' arms2':=fun h => (hpb h).2
     have cE:=fun W (hW:Fr [] wr W) => Lib.hid (IH.out k2 a2 a2' nm2 n2 s2 ls2 args2 args2' arms2 arms2' A52 A52' cc52 cc52' A62 A62' cc62 cc62' A72 A72' cc72 cc72' true W ok ok' (by omega) (by omega) (hxw.keep (Sh.of_fr hW (fun b hb _ => ⟨hb,fun x => by cases x⟩))) (hyw.keep (Sh.of_fr hW (fun b hb _ => ⟨hb,fun x => by cases x⟩))) ⟨hl2,hh2⟩ ⟨hm2,fun i u v hu hv => ⟨hp2 i u.1 v.1 u.2 v.2 hu hv,hq2 i u.1 v.1 u.2 v.2 hu hv⟩⟩ (fun h => by have:=hpx h;cases this;exact ⟨rfl,rfl,rfl⟩))
     have cP:=Lib.hid (samep_all (laP (.mk k3 a3 nm3 n3 s3 ls3 args3) + 1) k3 a3 a3' nm3 n3 s3 ls3 args3 args3' A53 A53' cc53 cc53' A63 A63' cc63 cc63' true wr.drew ok ok' (by omega) (by omega) (hpw.keep (Sh.of_fr (Fr.refl [] wr).drew (fun b hb _ => ⟨hb,fun x => by cases x⟩))) (hpw'.keep (Sh.of_fr (Fr.refl [] wr).drew (fun b hb _ => ⟨hb,fun x => by cases x⟩))) ⟨hl3,hh3⟩ (fun h => by have:=(hpb h).1;cases this;exact ⟨rfl,rfl⟩))
     clear hxw hyw hpx hzx hpw hpw' hpb
     have q1:(0:Int)≤(i:Int):=by omega
     have q2:(i:Int) < (arms.length:Int):=by omega
     clear hh2 hl2 hm2 hp2 hq2 hl3 hh3
     go_wp2_with fail
     go_region_held3 (fun w' => w'.cell? ⟨T,7,none⟩ = some (.slice (some ⟨g,og,none⟩) arms.length cc7)∧w'.cell? ⟨T + 1,7,none⟩ = some (.slice (some ⟨g',og',none⟩) arms.length cc7')∧(w'.cell? ⟨g,og + i * 15,none⟩ = some (.int .i64 k3)∧w'.cell? ⟨g,og + i * 15 + 1,none⟩ = some (.int .i64 a3)∧w'.cell? ⟨g,og + i * 15 + 2,none⟩ = some (.string ⟨nm3.toArray⟩)∧w'.cell? ⟨g,og + i * 15 + 3,none⟩ = some (.int .i64 n3)∧w'.cell? ⟨g,og + i * 15 + 4,none⟩ = some (.string ⟨s3.toArray⟩)∧w'.cell? ⟨g,og + i * 15 + 5,none⟩ = some (.slice A53 ls3.length cc53)∧w'.cell? ⟨g,og + i * 15 + 6,none⟩ = some (.slice A63 args3.length cc63)∧w'.cell? ⟨g,og + i * 15 + 7,none⟩ = some (.int .i64 k2)∧w'.cell? ⟨g,og + i * 15 + 8,none⟩ = some (.int .i64 a2)∧w'.cell? ⟨g,og + i * 15 + 9,none⟩ = some (.string ⟨nm2.toArray⟩)∧w'.cell? ⟨g,og + i * 15 + 10,none⟩ = some (.int .i64 n2)∧w'.cell? ⟨g,og + i * 15 + 11,none⟩ = some (.string ⟨s2.toArray⟩)∧w'.cell? ⟨g,og + i * 15 + 12,none⟩ = some (.slice A52 ls2.length cc52)∧w'.cell? ⟨g,og + i * 15 + 13,none⟩ = some (.slice A62 args2.length cc62)∧w'.cell? ⟨g,og + i * 15 + 14,none⟩ = some (.slice A72 arms2.length cc72))∧(w'.cell? ⟨g',og' + i * 15,none⟩ = some (.int .i64 k3)∧w'.cell? ⟨g',og' + i * 15 + 1,none⟩ = some (.int .i64 a3')∧w'.cell? ⟨g',og' + i * 15 + 2,none⟩ = some (.string ⟨nm3.toArray⟩)∧w'.cell? ⟨g',og' + i * 15 + 3,none⟩ = some (.int .i64 n3)∧w'.cell? ⟨g',og' + i * 15 + 4,none⟩ = some (.string ⟨s3.toArray⟩)∧w'.cell? ⟨g',og' + i * 15 + 5,none⟩ = some (.slice A53' ls3.length cc53')∧w'.cell? ⟨g',og' + i * 15 + 6,none⟩ = some (.slice A63' args3.length cc63')∧w'.cell? ⟨g',og' + i * 15 + 7,none⟩ = some (.int .i64 k2)∧w'.cell? ⟨g',og' + i * 15 + 8,none⟩ = some (.int .i64 a2')∧w'.cell? ⟨g',og' + i * 15 + 9,none⟩ = some (.string ⟨nm2.toArray⟩)∧w'.cell? ⟨g',og' + i * 15 + 10,none⟩ = some (.int .i64 n2)∧w'.cell? ⟨g',og' + i * 15 + 11,none⟩ = some (.string ⟨s2.toArray⟩)∧w'.cell? ⟨g',og' + i * 15 + 12,none⟩ = some (.slice A52' ls2.length cc52')∧w'.cell? ⟨g',og' + i * 15 + 13,none⟩ = some (.slice A62' args2.length cc62')∧w'.cell? ⟨g',og' + i * 15 + 14,none⟩ = some (.slice A72' arms2.length cc72'))) (first | go_keep | exact ⟨t6,t6',⟨x0,x1,x2,x3,x4,x5,x6,x7,x8,x9,x10,x11,x12,x13,x14⟩,y0,y1,y2,y3,y4,y5,y6,y7,y8,y9,y10,y11,y12,y13,y14⟩) ((first | ((with_reducible refine cP.out.mono ?_);rintro e w3 ⟨rfl,f3⟩;have t6:=kc (w:=wr.drew) f3 t6 hTa;have t6':=kc (w:=wr.drew) f3 t6' hTb;have x0:=kc (w:=wr.drew) f3 x0 hgw;have y0:=kc (w:=wr.drew) f3 y0 hgw';have x1:=kc (w:=wr.drew) f3 x1 hgw;have y1:=kc (w:=wr.drew) f3 y1 hgw';have x2:=kc (w:=wr.drew) f3 x2 hgw;have y2:=kc (w:=wr.drew) f3 y2 hgw';have x3:=kc (w:=wr.drew) f3 x3 hgw;have y3:=kc (w:=wr.drew) f3 y3 hgw';have x4:=kc (w:=wr.drew) f3 x4 hgw;have y4:=kc (w:=wr.drew) f3 y4 hgw';have x5:=kc (w:=wr.drew) f3 x5 hgw;have y5:=kc (w:=wr.drew) f3 y5 hgw';have x6:=kc (w:=wr.drew) f3 x6 hgw;have y6:=kc (w:=wr.drew) f3 y6 hgw';have x7:=kc (w:=wr.drew) f3 x7 hgw;have y7:=kc (w:=wr.drew) f3 y7 hgw';have x8:=kc (w:=wr.drew) f3 x8 hgw;have y8:=kc (w:=wr.drew) f3 y8 hgw';have x9:=kc (w:=wr.drew) f3 x9 hgw;have y9:=kc (w:=wr.drew) f3 y9 hgw';have x10:=kc (w:=wr.drew) f3 x10 hgw;have y10:=kc (w:=wr.drew) f3 y10 hgw';have x11:=kc (w:=wr.drew) f3 x11 hgw;have y11:=kc (w:=wr.drew) f3 y11 hgw';have x12:=kc (w:=wr.drew) f3 x12 hgw;have y12:=kc (w:=wr.drew) f3 y12 hgw';have x13:=kc (w:=wr.drew) f3 x13 hgw;have y13:=kc (w:=wr.drew) f3 y13 hgw';have x14:=kc (w:=wr.drew) f3 x14 hgw;have y14:=kc (w:=wr.drew) f3 y14 hgw') | ((with_reducible refine (cE w3 (((Fr.refl [] wr).drew).trans f3)).out.mono ?_);rintro e w4 ⟨rfl,f4⟩;have t6:=kc (w:=w3) f4 t6 (Nat.lt_of_lt_of_le hTa f3.size);have t6':=kc (w:=w3) f4 t6' (Nat.lt_of_lt_of_le hTb f3.size);have x0:=kc (w:=w3) f4 x0 (Nat.lt_of_lt_of_le hgw f3.size);have y0:=kc (w:=w3) f4 y0 (Nat.lt_of_lt_of_le hgw' f3.size);have x1:=kc (w:=w3) f4 x1 (Nat.lt_of_lt_of_le hgw f3.size);have y1:=kc (w:=w3) f4 y1 (Nat.lt_of_lt_of_le hgw' f3.size);have x2:=kc (w:=w3) f4 x2 (Nat.lt_of_lt_of_le hgw f3.size);have y2:=kc (w:=w3) f4 y2 (Nat.lt_of_lt_of_le hgw' f3.size);have x3:=kc (w:=w3) f4 x3 (Nat.lt_of_lt_of_le hgw f3.size);have y3:=kc (w:=w3) f4 y3 (Nat.lt_of_lt_of_le hgw' f3.size);have x4:=kc (w:=w3) f4 x4 (Nat.lt_of_lt_of_le hgw f3.size);have y4:=kc (w:=w3) f4 y4 (Nat.lt_of_lt_of_le hgw' f3.size);have x5:=kc (w:=w3) f4 x5 (Nat.lt_of_lt_of_le hgw f3.size);have y5:=kc (w:=w3) f4 y5 (Nat.lt_of_lt_of_le hgw' f3.size);have x6:=kc (w:=w3) f4 x6 (Nat.lt_of_lt_of_le hgw f3.size);have y6:=kc (w:=w3) f4 y6 (Nat.lt_of_lt_of_le hgw' f3.size);have x7:=kc (w:=w3) f4 x7 (Nat.lt_of_lt_of_le hgw f3.size);have y7:=kc (w:=w3) f4 y7 (Nat.lt_of_lt_of_le hgw' f3.size);have x8:=kc (w:=w3) f4 x8 (Nat.lt_of_lt_of_le hgw f3.size);have y8:=kc (w:=w3) f4 y8 (Nat.lt_of_lt_of_le hgw' f3.size);have x9:=kc (w:=w3) f4 x9 (Nat.lt_of_lt_of_le hgw f3.size);have y9:=kc (w:=w3) f4 y9 (Nat.lt_of_lt_of_le hgw' f3.size);have x10:=kc (w:=w3) f4 x10 (Nat.lt_of_lt_of_le hgw f3.size);have y10:=kc (w:=w3) f4 y10 (Nat.lt_of_lt_of_le hgw' f3.size);have x11:=kc (w:=w3) f4 x11 (Nat.lt_of_lt_of_le hgw f3.size);have y11:=kc (w:=w3) f4 y11 (Nat.lt_of_lt_of_le hgw' f3.size);have x12:=kc (w:=w3) f4 x12 (Nat.lt_of_lt_of_le hgw f3.size);have y12:=kc (w:=w3) f4 y12 (Nat.lt_of_lt_of_le hgw' f3.size);have x13:=kc (w:=w3) f4 x13 (Nat.lt_of_lt_of_le hgw f3.size);have y13:=kc (w:=w3) f4 y13 (Nat.lt_of_lt_of_le hgw' f3.size);have x14:=kc (w:=w3) f4 x14 (Nat.lt_of_lt_of_le hgw f3.size);have y14:=kc (w:=w3) f4 y14 (Nat.lt_of_lt_of_le hgw' f3.size))))
     go_wp2_with fail
     go_roundw
     case rel => exact ⟨i + 1,by simp,by omega,fq.trans ((((Fr.refl [] wr).drew).trans f3).trans f4)⟩
     case measure => simp [intOf];omega
    ·have ei:i = arms.length:=by omega
     subst ei
     go_wp2_with fail
     go_ret
     exact ⟨rfl,f⟩
set_option maxHeartbeats 16000000 in
set_option maxRecDepth 100000 in
theorem same_false (N:Nat) (ih:SME N) (k a a':Int) (nm:List UInt8) (n:Int) (s:List UInt8) (ls:List (List UInt8)) (args args':List ExprT) (arms arms':List (PatT × ExprT)) (A5 A5':Option Addr) (cc5 cc5':Nat) (A6 A6':Option Addr) (cc6 cc6':Nat) (A7 A7':Option Addr) (cc7 cc7':Nat) (w:World) (ok ok':Nat→Prop) (hN:laE (.mk k a nm n s ls args arms) < N + 1)
  (hz:laE (.mk k a nm n s ls args arms)≤1099511627776) (hx:ExprAt w ok (.mk k a nm n s ls args arms) [.int .i64 k,.int .i64 a,.string ⟨nm.toArray⟩,.int .i64 n,.string ⟨s.toArray⟩,.slice A5 ls.length cc5,.slice A6 args.length cc6,.slice A7 arms.length cc7]) (hy:ExprAt w ok' (.mk k a' nm n s ls args' arms') [.int .i64 k,.int .i64 a',.string ⟨nm.toArray⟩,.int .i64 n,.string ⟨s.toArray⟩,.slice A5' ls.length cc5',.slice A6' args.length cc6',.slice A7' arms.length cc7']) (hS:SL SameE args args') (hM:SL SameA arms arms') (hp:(false:Bool) = true→a = a'∧args = args'∧arms = arms') :
  Calls Tryz.prog 14 #[.agg #[.int .i64 k,.int .i64 a,.string ⟨nm.toArray⟩,.int .i64 n,.string ⟨s.toArray⟩,.slice A5 ls.length cc5,.slice A6 args.length cc6,.slice A7 arms.length cc7],.agg #[.int .i64 k,.int .i64 a',.string ⟨nm.toArray⟩,.int .i64 n,.string ⟨s.toArray⟩,.slice A5' ls.length cc5',.slice A6' args.length cc6',.slice A7' arms.length cc7'],.bool false] w fun e w' => e = .returned (.bool true)∧Fr [] w w':=by
 cases hx with
 | mk c5 c6 cp ce h5 e5 h6 e6 h7 e7 e8 =>
 cases hy with
 | mk d5 d6 dp de h5' e5' h6' e6' h7' e7' e8' =>
 rw [← hS.1] at h6'
 rw [← hM.1] at h7'
 have hsz:laE (.mk k a nm n s ls args arms) = 1 + ls.length + (laEs args + laAs arms):=by simp [laE]
 rw [hsz] at hN hz
 have hm6:(args.length:Int)≤1099511627776:=by have:=laEs_ge args;omega
 have hm7:(arms.length:Int)≤1099511627776:=by have:=laAs_ge arms;omega
 have hm5:(ls.length:Int)≤1099511627776:=by omega
 have IH:=Lib.hid ih
 have H6:=Lib.hid h6
 have H6':=Lib.hid h6'
 have H7:=Lib.hid h7
 have H7':=Lib.hid h7'
 have E6:Hid (∀ (i:Nat) (x:ExprT),args[i]? = some x→ExprAt w ok x (c6 i)):=Lib.hid e6
 have E6':Hid (∀ (i:Nat) (x:ExprT),args'[i]? = some x→ExprAt w ok' x (d6 i)):=Lib.hid e6'
 have E7:Hid (∀ (i:Nat) (p:PatT) (x:ExprT),arms[i]? = some (p,x)→PatAt w ok p (cp i)):=Lib.hid e7
 have E7':Hid (∀ (i:Nat) (p:PatT) (x:ExprT),arms'[i]? = some (p,x)→PatAt w ok' p (dp i)):=Lib.hid e7'
 have E8:Hid (∀ (i:Nat) (p:PatT) (x:ExprT),arms[i]? = some (p,x)→ExprAt w ok x (ce i)):=Lib.hid e8
 have E8':Hid (∀ (i:Nat) (p:PatT) (x:ExprT),arms'[i]? = some (p,x)→ExprAt w ok' x (de i)):=Lib.hid e8'
 have HS:=Lib.hid hS
 have HM:=Lib.hid hM
 have HP:Hid ((false:Bool) = true→a = a'∧args = args'∧arms = arms'):=Lib.hid hp
 have cT:=fun W (hW:Fr [] w W) => Lib.hid (texts_any ls (by omega) A5 A5' cc5 cc5' W (h5.keep (ok':=ok) (Sh.of_fr hW (fun b hb _ => ⟨hb,fun x => by cases x⟩))) e5 (h5'.keep (ok':=ok') (Sh.of_fr hW (fun b hb _ => ⟨hb,fun x => by cases x⟩))) e5')
 clear ih h5 e5 h6 e6 h7 e7 e8 h5' e5' h6' e6' h7' e7' e8' hS hM hp
 have f0:Fr [] w ((w.alloc (.cells #[.int .i64 k,.int .i64 a,.string ⟨nm.toArray⟩,.int .i64 n,.string ⟨s.toArray⟩,.slice A5 ls.length cc5,.slice A6 args.length cc6,.slice A7 arms.length cc7] 27)).alloc (.cells #[.int .i64 k,.int .i64 a',.string ⟨nm.toArray⟩,.int .i64 n,.string ⟨s.toArray⟩,.slice A5' ls.length cc5',.slice A6' args.length cc6',.slice A7' arms.length cc7'] 27)):=((Fr.refl [] w).alloc _).alloc _
 have q3:=heap_old (heap_new w (.cells #[.int .i64 k,.int .i64 a,.string ⟨nm.toArray⟩,.int .i64 n,.string ⟨s.toArray⟩,.slice A5 ls.length cc5,.slice A6 args.length cc6,.slice A7 arms.length cc7] 27)) (.cells #[.int .i64 k,.int .i64 a',.string ⟨nm.toArray⟩,.int .i64 n,.string ⟨s.toArray⟩,.slice A5' ls.length cc5',.slice A6' args.length cc6',.slice A7' arms.length cc7'] 27)
 have q4:=heap_new (w.alloc (.cells #[.int .i64 k,.int .i64 a,.string ⟨nm.toArray⟩,.int .i64 n,.string ⟨s.toArray⟩,.slice A5 ls.length cc5,.slice A6 args.length cc6,.slice A7 arms.length cc7] 27)) (.cells #[.int .i64 k,.int .i64 a',.string ⟨nm.toArray⟩,.int .i64 n,.string ⟨s.toArray⟩,.slice A5' ls.length cc5',.slice A6' args.length cc6',.slice A7' arms.length cc7'] 27)
 have hs1:(w.alloc (.cells #[.int .i64 k,.int .i64 a,.string ⟨nm.toArray⟩,.int .i64 n,.string ⟨s.toArray⟩,.slice A5 ls.length cc5,.slice A6 args.length cc6,.slice A7 arms.length cc7] 27)).heap.size = w.heap.size + 1:=by simp
 rw [hs1] at q4
 have hs2:((w.alloc (.cells #[.int .i64 k,.int .i64 a,.string ⟨nm.toArray⟩,.int .i64 n,.string ⟨s.toArray⟩,.slice A5 ls.length cc5,.slice A6 args.length cc6,.slice A7 arms.length cc7] 27)).alloc (.cells #[.int .i64 k,.int .i64 a',.string ⟨nm.toArray⟩,.int .i64 n,.string ⟨s.toArray⟩,.slice A5' ls.length cc5',.slice A6' args.length cc6',.slice A7' arms.length cc7'] 27)).heap.size = w.heap.size + 2:=by simp
 have HQ3:=Lib.hid q3
 have HQ4:=Lib.hid q4
 clear q3 q4 hs1
 go_enter Tryz.func14,Tryz.ntmps14
 go_wp2_with fail
 refine (cT _ f0).out.mono ?_
 rintro e w1 ⟨rfl,f1⟩
 clear cT
 have f:=f0.trans f1
 have q3:=f1.keep HQ3.out (fun x => by cases x)
 have q4:=f1.keep HQ4.out (fun x => by cases x)
 have hT2:w.heap.size + 2≤w1.heap.size:=by have:=f1.size;omega
 clear f0 f1 HQ3 HQ4 hs2
 have t6:w1.cell? ⟨w.heap.size,6,none⟩ = some (.slice A6 args.length cc6):=cell_of q3 6
 have t6':w1.cell? ⟨w.heap.size + 1,6,none⟩ = some (.slice A6' args.length cc6'):=cell_of q4 6
 have t7:w1.cell? ⟨w.heap.size,7,none⟩ = some (.slice A7 arms.length cc7):=cell_of q3 7
 have t7':w1.cell? ⟨w.heap.size + 1,7,none⟩ = some (.slice A7' arms.length cc7'):=cell_of q4 7
 have hTa:w.heap.size < w1.heap.size:=by omega
 have hTb:w.heap.size + 1 < w1.heap.size:=by omega
 go_wp2_with fail
 clear t6 t6' t7 t7' hTa hTb
 go_loopw [7] (fun iv wr => ∃ i:Nat,iv = .int .i64 i∧i≤args.length∧Fr [] w1 wr) (fun iv wr => args.length - (intOf iv).toNat)
 case atStart => exact ⟨0,rfl,by omega,Fr.refl _ _⟩
 case round =>
  obtain ⟨i,rfl,hi,fr⟩:=hrel
  have q3:=fr.keep q3 (fun x => by cases x)
  have q4:=fr.keep q4 (fun x => by cases x)
  have f:=f.trans fr
  have hTw:w.heap.size + 2≤wr.heap.size:=by have:=fr.size;omega
  generalize hT:w.heap.size = T at *
  have t6:wr.cell? ⟨T,6,none⟩ = some (.slice A6 args.length cc6):=cell_of q3 6
  have t6':wr.cell? ⟨T + 1,6,none⟩ = some (.slice A6' args.length cc6'):=cell_of q4 6
  have hTa:T < wr.heap.size:=by omega
  have hTb:T + 1 < wr.heap.size:=by omega
  by_cases hlt:i < args.length
  ·obtain ⟨g,og,rfl,_,hg,_,_,hc⟩:=H6.out.row hlt
   obtain ⟨g',og',rfl,_,hg',_,_,hc'⟩:=H6'.out.row hlt
   obtain ⟨x,hx⟩:∃ x,args[i]? = some x:=⟨args[i],List.getElem?_eq_getElem hlt⟩
   obtain ⟨y,hy⟩:∃ y,args'[i]? = some y:=⟨args'[i]'(by rw [← HS.out.1];exact hlt),List.getElem?_eq_getElem _⟩
   have hxy:=HS.out.2 i x y hx hy
   have hpx:(false:Bool) = true→x = y:=fun h => by
    have:=(HP.out (by first | exact h | trivial | simp)).2.1
    rw [this,hy] at hx
    exact (Option.some.inj hx).symm
   have hxx:=E6.out i x hx
   have hyy:=E6'.out i y hy
   have hzx:=laEs_get hx
   clear hx hy
   generalize c6 i = ci at *
   generalize d6 i = di at *
   have hxw:=hxx.keep (w':=wr) (ok':=ok) (Sh.of_fr f (fun b hb _ => ⟨hb,fun x => by cases x⟩))
   have hyw:=hyy.keep (w':=wr) (ok':=ok') (Sh.of_fr f (fun b hb _ => ⟨hb,fun x => by cases x⟩))
   cases hxy with
   | @mk k2 a2 a2' nm2 n2 s2 ls2 args2 args2' arms2 arms2' hl2 hh2 hm2 hp2 hq2 =>
   cases hxx with
   | mk _ _ _ _ r52 _ r62 _ r72 _ _ =>
   cases hyy with
   | mk _ _ _ _ r52' _ r62' _ r72' _ _ =>
   have hf:∀ {v:Value} {n size:Nat} {cs:Nat→List Value} {o:Nat→Prop},SlAt w o v n size cs→∃ A c,v = .slice A n c:=fun h => h.form
   obtain ⟨A52,cc52,rfl⟩:=hf r52
   obtain ⟨A52',cc52',rfl⟩:=hf r52'
   obtain ⟨A62,cc62,rfl⟩:=hf r62
   obtain ⟨A62',cc62',rfl⟩:=hf r62'
   obtain ⟨A72,cc72,rfl⟩:=hf r72
   obtain ⟨A72',cc72',rfl⟩:=hf r72'
   clear hf r52 r62 r72 r52' r62' r72'
   rw [← hl2,← hm2] at hc' hyw
   have x0:wr.cell? ⟨g,og + i * 8,none⟩ = some (.int .i64 k2):=(f.cell (p:=⟨g,og + i * 8,none⟩) hg (fun x => by cases x)).trans (hc 0 _ rfl)
   have x1:wr.cell? ⟨g,og + i * 8 + 1,none⟩ = some (.int .i64 a2):=(f.cell (p:=⟨g,og + i * 8 + 1,none⟩) hg (fun x => by cases x)).trans (hc 1 _ rfl)
   have x2:wr.cell? ⟨g,og + i * 8 + 2,none⟩ = some (.string ⟨nm2.toArray⟩):=(f.cell (p:=⟨g,og + i * 8 + 2,none⟩) hg (fun x => by cases x)).trans (hc 2 _ rfl)
   have x3:wr.cell? ⟨g,og + i * 8 + 3,none⟩ = some (.int .i64 n2):=(f.cell (p:=⟨g,og + i * 8 + 3,none⟩) hg (fun x => by cases x)).trans (hc 3 _ rfl)
   have x4:wr.cell? ⟨g,og + i * 8 + 4,none⟩ = some (.string ⟨s2.toArray⟩):=(f.cell (p:=⟨g,og + i * 8 + 4,none⟩) hg (fun x => by cases x)).trans (hc 4 _ rfl)
   have x5:wr.cell? ⟨g,og + i * 8 + 5,none⟩ = some (.slice A52 ls2.length cc52):=(f.cell (p:=⟨g,og + i * 8 + 5,none⟩) hg (fun x => by cases x)).trans (hc 5 _ rfl)
   have x6:wr.cell? ⟨g,og + i * 8 + 6,none⟩ = some (.slice A62 args2.length cc62):=(f.cell (p:=⟨g,og + i * 8 + 6,none⟩) hg (fun x => by cases x)).trans (hc 6 _ rfl)
   have x7:wr.cell? ⟨g,og + i * 8 + 7,none⟩ = some (.slice A72 arms2.length cc72):=(f.cell (p:=⟨g,og + i * 8 + 7,none⟩) hg (fun x => by cases x)).trans (hc 7 _ rfl)
   have y0:wr.cell? ⟨g',og' + i * 8,none⟩ = some (.int .i64 k2):=(f.cell (p:=⟨g',og' + i * 8,none⟩) hg' (fun x => by cases x)).trans (hc' 0 _ rfl)
   have y1:wr.cell? ⟨g',og' + i * 8 + 1,none⟩ = some (.int .i64 a2'):=(f.cell (p:=⟨g',og' + i * 8 + 1,none⟩) hg' (fun x => by cases x)).trans (hc' 1 _ rfl)
   have y2:wr.cell? ⟨g',og' + i * 8 + 2,none⟩ = some (.string ⟨nm2.toArray⟩):=(f.cell (p:=⟨g',og' + i * 8 + 2,none⟩) hg' (fun x => by cases x)).trans (hc' 2 _ rfl)
   have y3:wr.cell? ⟨g',og' + i * 8 + 3,none⟩ = some (.int .i64 n2):=(f.cell (p:=⟨g',og' + i * 8 + 3,none⟩) hg' (fun x => by cases x)).trans (hc' 3 _ rfl)
   have y4:wr.cell? ⟨g',og' + i * 8 + 4,none⟩ = some (.string ⟨s2.toArray⟩):=(f.cell (p:=⟨g',og' + i * 8 + 4,none⟩) hg' (fun x => by cases x)).trans (hc' 4 _ rfl)
   have y5:wr.cell? ⟨g',og' + i * 8 + 5,none⟩ = some (.slice A52' ls2.length cc52'):=(f.cell (p:=⟨g',og' + i * 8 + 5,none⟩) hg' (fun x => by cases x)).trans (hc' 5 _ rfl)
   have y6:wr.cell? ⟨g',og' + i * 8 + 6,none⟩ = some (.slice A62' args2.length cc62'):=(f.cell (p:=⟨g',og' + i * 8 + 6,none⟩) hg' (fun x => by cases x)).trans (hc' 6 _ rfl)
   have y7:wr.cell? ⟨g',og' + i * 8 + 7,none⟩ = some (.slice A72' arms2.length cc72'):=(f.cell (p:=⟨g',og' + i * 8 + 7,none⟩) hg' (fun x => by cases x)).trans (hc' 7 _ rfl)
   clear hc hc'
   have hgw:g < wr.heap.size:=Nat.lt_of_lt_of_le hg f.size
   have hgw':g' < wr.heap.size:=Nat.lt_of_lt_of_le hg' f.size
   have cP:=fun W (hW:Fr [] wr W) => Lib.hid (IH.out k2 a2 a2' nm2 n2 s2 ls2 args2 args2' arms2 arms2' A52 A52' cc52 cc52' A62 A62' cc62 cc62' A72 A72' cc72 cc72' false W ok ok' (by omega) (by omega) (hxw.keep (Sh.of_fr hW (fun b hb _ => ⟨hb,fun x => by cases x⟩))) (hyw.keep (Sh.of_fr hW (fun b hb _ => ⟨hb,fun x => by cases x⟩))) ⟨hl2,hh2⟩ ⟨hm2,fun i u v hu hv => ⟨hp2 i u.1 v.1 u.2 v.2 hu hv,hq2 i u.1 v.1 u.2 v.2 hu hv⟩⟩ (fun h => by have:=hpx h;cases this;exact ⟨rfl,rfl,rfl⟩))
   have cP:=cP wr.drew (Fr.refl [] wr).drew
   clear hxw hyw hpx hzx
   have q1:(0:Int)≤(i:Int):=by omega
   have q2:(i:Int) < (args.length:Int):=by omega
   clear hh2 hl2 hm2 hp2 hq2
   go_wp2_with fail
   go_region_held3 (fun w' => w'.cell? ⟨T,6,none⟩ = some (.slice (some ⟨g,og,none⟩) args.length cc6)∧w'.cell? ⟨T + 1,6,none⟩ = some (.slice (some ⟨g',og',none⟩) args.length cc6')∧(w'.cell? ⟨g,og + i * 8,none⟩ = some (.int .i64 k2)∧w'.cell? ⟨g,og + i * 8 + 1,none⟩ = some (.int .i64 a2)∧w'.cell? ⟨g,og + i * 8 + 2,none⟩ = some (.string ⟨nm2.toArray⟩)∧w'.cell? ⟨g,og + i * 8 + 3,none⟩ = some (.int .i64 n2)∧w'.cell? ⟨g,og + i * 8 + 4,none⟩ = some (.string ⟨s2.toArray⟩)∧w'.cell? ⟨g,og + i * 8 + 5,none⟩ = some (.slice A52 ls2.length cc52)∧w'.cell? ⟨g,og + i * 8 + 6,none⟩ = some (.slice A62 args2.length cc62)∧w'.cell? ⟨g,og + i * 8 + 7,none⟩ = some (.slice A72 arms2.length cc72))∧(w'.cell? ⟨g',og' + i * 8,none⟩ = some (.int .i64 k2)∧w'.cell? ⟨g',og' + i * 8 + 1,none⟩ = some (.int .i64 a2')∧w'.cell? ⟨g',og' + i * 8 + 2,none⟩ = some (.string ⟨nm2.toArray⟩)∧w'.cell? ⟨g',og' + i * 8 + 3,none⟩ = some (.int .i64 n2)∧w'.cell? ⟨g',og' + i * 8 + 4,none⟩ = some (.string ⟨s2.toArray⟩)∧w'.cell? ⟨g',og' + i * 8 + 5,none⟩ = some (.slice A52' ls2.length cc52')∧w'.cell? ⟨g',og' + i * 8 + 6,none⟩ = some (.slice A62' args2.length cc62')∧w'.cell? ⟨g',og' + i * 8 + 7,none⟩ = some (.slice A72' arms2.length cc72'))) (first | go_keep | exact ⟨t6,t6',⟨x0,x1,x2,x3,x4,x5,x6,x7⟩,y0,y1,y2,y3,y4,y5,y6,y7⟩) (((with_reducible refine cP.out.mono ?_);rintro e w3 ⟨rfl,f3⟩;have t6:=kc (w:=wr.drew) f3 t6 hTa;have t6':=kc (w:=wr.drew) f3 t6' hTb;have x0:=kc (w:=wr.drew) f3 x0 hgw;have y0:=kc (w:=wr.drew) f3 y0 hgw';have x1:=kc (w:=wr.drew) f3 x1 hgw;have y1:=kc (w:=wr.drew) f3 y1 hgw';have x2:=kc (w:=wr.drew) f3 x2 hgw;have y2:=kc (w:=wr.drew) f3 y2 hgw';have x3:=kc (w:=wr.drew) f3 x3 hgw;have y3:=kc (w:=wr.drew) f3 y3 hgw';have x4:=kc (w:=wr.drew) f3 x4 hgw;have y4:=kc (w:=wr.drew) f3 y4 hgw';have x5:=kc (w:=wr.drew) f3 x5 hgw;have y5:=kc (w:=wr.drew) f3 y5 hgw';have x6:=kc (w:=wr.drew) f3 x6 hgw;have y6:=kc (w:=wr.drew) f3 y6 hgw';have x7:=kc (w:=wr.drew) f3 x7 hgw;have y7:=kc (w:=wr.drew) f3 y7 hgw'))
   go_wp2_with fail
   go_roundw
   case rel => exact ⟨i + 1,by simp,by omega,fr.trans (((Fr.refl [] wr).drew).trans f3)⟩
   case measure => simp [intOf];omega
  ·have ei:i = args.length:=by omega
   subst ei
   clear t6 t6'
   have t6:wr.cell? ⟨T,7,none⟩ = some (.slice A7 arms.length cc7):=cell_of q3 7
   have t6':wr.cell? ⟨T + 1,7,none⟩ = some (.slice A7' arms.length cc7'):=cell_of q4 7
   have t6a:wr.cell? ⟨T,6,none⟩ = some (.slice A6 args.length cc6):=cell_of q3 6
   go_wp2_with fail
   clear t6 t6' t6a
   have hw5:∃ w5,w5 = wr:=⟨_,rfl⟩
   obtain ⟨w5,hw5⟩:=hw5
   subst hw5
   go_loopw [8] (fun iv wq => ∃ i:Nat,iv = .int .i64 i∧i≤arms.length∧Fr [] w5 wq) (fun iv wq => arms.length - (intOf iv).toNat)
   case atStart => exact ⟨0,rfl,by omega,Fr.refl _ _⟩
   case round =>
    obtain ⟨i,rfl,hi',fq⟩:=hrel
    have q3:=fq.keep q3 (fun x => by cases x)
    have q4:=fq.keep q4 (fun x => by cases x)
    have f:=f.trans fq
    have hTw:T + 2≤wr.heap.size:=by have:=fq.size;omega
    have t6:wr.cell? ⟨T,7,none⟩ = some (.slice A7 arms.length cc7):=cell_of q3 7
    have t6':wr.cell? ⟨T + 1,7,none⟩ = some (.slice A7' arms.length cc7'):=cell_of q4 7
    clear hTa hTb
    have hTa:T < wr.heap.size:=by omega
    have hTb:T + 1 < wr.heap.size:=by omega
    by_cases hlt:i < arms.length
    ·obtain ⟨g,og,rfl,_,hg,_,_,hc⟩:=H7.out.row hlt
     obtain ⟨g',og',rfl,_,hg',_,_,hc'⟩:=H7'.out.row hlt
     obtain ⟨p,x,hx⟩:∃ p x,arms[i]? = some (p,x):=⟨(arms[i]).1,(arms[i]).2,List.getElem?_eq_getElem hlt⟩
     obtain ⟨p',y,hy⟩:∃ p' y,arms'[i]? = some (p',y):=⟨(arms'[i]'(by rw [← HM.out.1];exact hlt)).1,(arms'[i]'(by rw [← HM.out.1];exact hlt)).2,List.getElem?_eq_getElem _⟩
     have hxy:=(HM.out.2 i _ _ hx hy).2
     have hpp:=(HM.out.2 i _ _ hx hy).1
     have hpb:(false:Bool) = true→p = p'∧x = y:=fun h => by
      have:=(HP.out (by first | exact h | trivial | simp)).2.2
      rw [this,hy] at hx
      cases hx
      exact ⟨rfl,rfl⟩
     have hxx:=E8.out i p x hx
     have hyy:=E8'.out i p' y hy
     have hpx2:=E7.out i p x hx
     have hpy2:=E7'.out i p' y hy
     have hzx:=laAs_get hx
     clear hx hy
     simp only at hxy hpp hc hc'
     generalize cp i = ci at *
     generalize dp i = di at *
     generalize ce i = cj at *
     generalize de i = dj at *
     have hxw:=hxx.keep (w':=wr) (ok':=ok) (Sh.of_fr f (fun b hb _ => ⟨hb,fun x => by cases x⟩))
     have hyw:=hyy.keep (w':=wr) (ok':=ok') (Sh.of_fr f (fun b hb _ => ⟨hb,fun x => by cases x⟩))
     have hpw:=hpx2.keep (w':=wr) (ok':=ok) (Sh.of_fr f (fun b hb _ => ⟨hb,fun x => by cases x⟩))
     have hpw':=hpy2.keep (w':=wr) (ok':=ok') (Sh.of_fr f (fun b hb _ => ⟨hb,fun x => by cases x⟩))
     cases hpp with
     | @mk k3 a3 a3' nm3 n3 s3 ls3 args3 args3' hl3 hh3 =>
     cases hxy with
     | @mk k2 a2 a2' nm2 n2 s2 ls2 args2 args2' arms2 arms2' hl2 hh2 hm2 hp2 hq2 =>
     cases hpx2 with
     | mk _ _ r53 _ r63 _ =>
     cases hpy2 with
     | mk _ _ r53' _ r63' _ =>
     cases hxx with
     | mk _ _ _ _ r52 _ r62 _ r72 _ _ =>
     cases hyy with
     | mk _ _ _ _ r52' _ r62' _ r72' _ _ =>
     have hf:∀ {v:Value} {n size:Nat} {cs:Nat→List Value} {o:Nat→Prop},SlAt w o v n size cs→∃ A c,v = .slice A n c:=fun h => h.form
     obtain ⟨A53,cc53,rfl⟩:=hf r53
     obtain ⟨A53',cc53',rfl⟩:=hf r53'
     obtain ⟨A63,cc63,rfl⟩:=hf r63
     obtain ⟨A63',cc63',rfl⟩:=hf r63'
     obtain ⟨A52,cc52,rfl⟩:=hf r52
     obtain ⟨A52',cc52',rfl⟩:=hf r52'
     obtain ⟨A62,cc62,rfl⟩:=hf r62
     obtain ⟨A62',cc62',rfl⟩:=hf r62'
     obtain ⟨A72,cc72,rfl⟩:=hf r72
     obtain ⟨A72',cc72',rfl⟩:=hf r72'
     clear hf r52 r62 r72 r52' r62' r72' r53 r63 r53' r63'
     rw [← hl2,← hm2] at hyw
     rw [← hl2,← hm2,← hl3] at hc'
     rw [← hl3] at hpw'
     have x0:wr.cell? ⟨g,og + i * 15,none⟩ = some (.int .i64 k3):=(f.cell (p:=⟨g,og + i * 15,none⟩) hg (fun x => by cases x)).trans (hc 0 _ rfl)
     have x1:wr.cell? ⟨g,og + i * 15 + 1,none⟩ = some (.int .i64 a3):=(f.cell (p:=⟨g,og + i * 15 + 1,none⟩) hg (fun x => by cases x)).trans (hc 1 _ rfl)
     have x2:wr.cell? ⟨g,og + i * 15 + 2,none⟩ = some (.string ⟨nm3.toArray⟩):=(f.cell (p:=⟨g,og + i * 15 + 2,none⟩) hg (fun x => by cases x)).trans (hc 2 _ rfl)
     have x3:wr.cell? ⟨g,og + i * 15 + 3,none⟩ = some (.int .i64 n3):=(f.cell (p:=⟨g,og + i * 15 + 3,none⟩) hg (fun x => by cases x)).trans (hc 3 _ rfl)
     have x4:wr.cell? ⟨g,og + i * 15 + 4,none⟩ = some (.string ⟨s3.toArray⟩):=(f.cell (p:=⟨g,og + i * 15 + 4,none⟩) hg (fun x => by cases x)).trans (hc 4 _ rfl)
     have x5:wr.cell? ⟨g,og + i * 15 + 5,none⟩ = some (.slice A53 ls3.length cc53):=(f.cell (p:=⟨g,og + i * 15 + 5,none⟩) hg (fun x => by cases x)).trans (hc 5 _ rfl)
     have x6:wr.cell? ⟨g,og + i * 15 + 6,none⟩ = some (.slice A63 args3.length cc63):=(f.cell (p:=⟨g,og + i * 15 + 6,none⟩) hg (fun x => by cases x)).trans (hc 6 _ rfl)
     have x7:wr.cell? ⟨g,og + i * 15 + 7,none⟩ = some (.int .i64 k2):=(f.cell (p:=⟨g,og + i * 15 + 7,none⟩) hg (fun x => by cases x)).trans (hc 7 _ rfl)
     have x8:wr.cell? ⟨g,og + i * 15 + 8,none⟩ = some (.int .i64 a2):=(f.cell (p:=⟨g,og + i * 15 + 8,none⟩) hg (fun x => by cases x)).trans (hc 8 _ rfl)
     have x9:wr.cell? ⟨g,og + i * 15 + 9,none⟩ = some (.string ⟨nm2.toArray⟩):=(f.cell (p:=⟨g,og + i * 15 + 9,none⟩) hg (fun x => by cases x)).trans (hc 9 _ rfl)
     have x10:wr.cell? ⟨g,og + i * 15 + 10,none⟩ = some (.int .i64 n2):=(f.cell (p:=⟨g,og + i * 15 + 10,none⟩) hg (fun x => by cases x)).trans (hc 10 _ rfl)
     have x11:wr.cell? ⟨g,og + i * 15 + 11,none⟩ = some (.string ⟨s2.toArray⟩):=(f.cell (p:=⟨g,og + i * 15 + 11,none⟩) hg (fun x => by cases x)).trans (hc 11 _ rfl)
     have x12:wr.cell? ⟨g,og + i * 15 + 12,none⟩ = some (.slice A52 ls2.length cc52):=(f.cell (p:=⟨g,og + i * 15 + 12,none⟩) hg (fun x => by cases x)).trans (hc 12 _ rfl)
     have x13:wr.cell? ⟨g,og + i * 15 + 13,none⟩ = some (.slice A62 args2.length cc62):=(f.cell (p:=⟨g,og + i * 15 + 13,none⟩) hg (fun x => by cases x)).trans (hc 13 _ rfl)
     have x14:wr.cell? ⟨g,og + i * 15 + 14,none⟩ = some (.slice A72 arms2.length cc72):=(f.cell (p:=⟨g,og + i * 15 + 14,none⟩) hg (fun x => by cases x)).trans (hc 14 _ rfl)
     have y0:wr.cell? ⟨g',og' + i * 15,none⟩ = some (.int .i64 k3):=(f.cell (p:=⟨g',og' + i * 15,none⟩) hg' (fun x => by cases x)).trans (hc' 0 _ rfl)
     have y1:wr.cell? ⟨g',og' + i * 15 + 1,none⟩ = some (.int .i64 a3'):=(f.cell (p:=⟨g',og' + i * 15 + 1,none⟩) hg' (fun x => by cases x)).trans (hc' 1 _ rfl)
     have y2:wr.cell? ⟨g',og' + i * 15 + 2,none⟩ = some (.string ⟨nm3.toArray⟩):=(f.cell (p:=⟨g',og' + i * 15 + 2,none⟩) hg' (fun x => by cases x)).trans (hc' 2 _ rfl)
     have y3:wr.cell? ⟨g',og' + i * 15 + 3,none⟩ = some (.int .i64 n3):=(f.cell (p:=⟨g',og' + i * 15 + 3,none⟩) hg' (fun x => by cases x)).trans (hc' 3 _ rfl)
     have y4:wr.cell? ⟨g',og' + i * 15 + 4,none⟩ = some (.string ⟨s3.toArray⟩):=(f.cell (p:=⟨g',og' + i * 15 + 4,none⟩) hg' (fun x => by cases x)).trans (hc' 4 _ rfl)
     have y5:wr.cell? ⟨g',og' + i * 15 + 5,none⟩ = some (.slice A53' ls3.length cc53'):=(f.cell (p:=⟨g',og' + i * 15 + 5,none⟩) hg' (fun x => by cases x)).trans (hc' 5 _ rfl)
     have y6:wr.cell? ⟨g',og' + i * 15 + 6,none⟩ = some (.slice A63' args3.length cc63'):=(f.cell (p:=⟨g',og' + i * 15 + 6,none⟩) hg' (fun x => by cases x)).trans (hc' 6 _ rfl)
     have y7:wr.cell? ⟨g',og' + i * 15 + 7,none⟩ = some (.int .i64 k2):=(f.cell (p:=⟨g',og' + i * 15 + 7,none⟩) hg' (fun x => by cases x)).trans (hc' 7 _ rfl)
     have y8:wr.cell? ⟨g',og' + i * 15 + 8,none⟩ = some (.int .i64 a2'):=(f.cell (p:=⟨g',og' + i * 15 + 8,none⟩) hg' (fun x => by cases x)).trans (hc' 8 _ rfl)
     have y9:wr.cell? ⟨g',og' + i * 15 + 9,none⟩ = some (.string ⟨nm2.toArray⟩):=(f.cell (p:=⟨g',og' + i * 15 + 9,none⟩) hg' (fun x => by cases x)).trans (hc' 9 _ rfl)
     have y10:wr.cell? ⟨g',og' + i * 15 + 10,none⟩ = some (.int .i64 n2):=(f.cell (p:=⟨g',og' + i * 15 + 10,none⟩) hg' (fun x => by cases x)).trans (hc' 10 _ rfl)
     have y11:wr.cell? ⟨g',og' + i * 15 + 11,none⟩ = some (.string ⟨s2.toArray⟩):=(f.cell (p:=⟨g',og' + i * 15 + 11,none⟩) hg' (fun x => by cases x)).trans (hc' 11 _ rfl)
     have y12:wr.cell? ⟨g',og' + i * 15 + 12,none⟩ = some (.slice A52' ls2.length cc52'):=(f.cell (p:=⟨g',og' + i * 15 + 12,none⟩) hg' (fun x => by cases x)).trans (hc' 12 _ rfl)
     have y13:wr.cell? ⟨g',og' + i * 15 + 13,none⟩ = some (.slice A62' args2.length cc62'):=(f.cell (p:=⟨g',og' + i * 15 + 13,none⟩) hg' (fun x => by cases x)).trans (hc' 13 _ rfl)
     have y14:wr.cell? ⟨g',og' + i * 15 + 14,none⟩ = some (.slice A72' arms2.length cc72'):=(f.cell (p:=⟨g',og' + i * 15 + 14,none⟩) hg' (fun x => by cases x)).trans (hc' 14 _ rfl)
     clear hc hc'
     have hgw:g < wr.heap.size:=Nat.lt_of_lt_of_le hg f.size
     have hgw':g' < wr.heap.size:=Nat.lt_of_lt_of_le hg' f.size
     have hpx:(false:Bool) = true→ExprT.mk k2 a2 nm2 n2 s2 ls2 args2 arms2 = ExprT.mk k2 a2' nm2 n2 s2 ls2 args2' arms2':=fun h => (hpb h).2
     have cE:=fun W (hW:Fr [] wr W) => Lib.hid (IH.out k2 a2 a2' nm2 n2 s2 ls2 args2 args2' arms2 arms2' A52 A52' cc52 cc52' A62 A62' cc62 cc62' A72 A72' cc72 cc72' false W ok ok' (by omega) (by omega) (hxw.keep (Sh.of_fr hW (fun b hb _ => ⟨hb,fun x => by cases x⟩))) (hyw.keep (Sh.of_fr hW (fun b hb _ => ⟨hb,fun x => by cases x⟩))) ⟨hl2,hh2⟩ ⟨hm2,fun i u v hu hv => ⟨hp2 i u.1 v.1 u.2 v.2 hu hv,hq2 i u.1 v.1 u.2 v.2 hu hv⟩⟩ (fun h => by have:=hpx h;cases this;exact ⟨rfl,rfl,rfl⟩))
     have cP:=Lib.hid (samep_all (laP (.mk k3 a3 nm3 n3 s3 ls3 args3) + 1) k3 a3 a3' nm3 n3 s3 ls3 args3 args3' A53 A53' cc53 cc53' A63 A63' cc63 cc63' false wr.drew ok ok' (by omega) (by omega) (hpw.keep (Sh.of_fr (Fr.refl [] wr).drew (fun b hb _ => ⟨hb,fun x => by cases x⟩))) (hpw'.keep (Sh.of_fr (Fr.refl [] wr).drew (fun b hb _ => ⟨hb,fun x => by cases x⟩))) ⟨hl3,hh3⟩ (fun h => by have:=(hpb h).1;cases this;exact ⟨rfl,rfl⟩))
     clear hxw hyw hpx hzx hpw hpw' hpb
     have q1:(0:Int)≤(i:Int):=by omega
     have q2:(i:Int) < (arms.length:Int):=by omega
     clear hh2 hl2 hm2 hp2 hq2 hl3 hh3
     go_wp2_with fail
     go_region_held3 (fun w' => w'.cell? ⟨T,7,none⟩ = some (.slice (some ⟨g,og,none⟩) arms.length cc7)∧w'.cell? ⟨T + 1,7,none⟩ = some (.slice (some ⟨g',og',none⟩) arms.length cc7')∧(w'.cell? ⟨g,og + i * 15,none⟩ = some (.int .i64 k3)∧w'.cell? ⟨g,og + i * 15 + 1,none⟩ = some (.int .i64 a3)∧w'.cell? ⟨g,og + i * 15 + 2,none⟩ = some (.string ⟨nm3.toArray⟩)∧w'.cell? ⟨g,og + i * 15 + 3,none⟩ = some (.int .i64 n3)∧w'.cell? ⟨g,og + i * 15 + 4,none⟩ = some (.string ⟨s3.toArray⟩)∧w'.cell? ⟨g,og + i * 15 + 5,none⟩ = some (.slice A53 ls3.length cc53)∧w'.cell? ⟨g,og + i * 15 + 6,none⟩ = some (.slice A63 args3.length cc63)∧w'.cell? ⟨g,og + i * 15 + 7,none⟩ = some (.int .i64 k2)∧w'.cell? ⟨g,og + i * 15 + 8,none⟩ = some (.int .i64 a2)∧w'.cell? ⟨g,og + i * 15 + 9,none⟩ = some (.string ⟨nm2.toArray⟩)∧w'.cell? ⟨g,og + i * 15 + 10,none⟩ = some (.int .i64 n2)∧w'.cell? ⟨g,og + i * 15 + 11,none⟩ = some (.string ⟨s2.toArray⟩)∧w'.cell? ⟨g,og + i * 15 + 12,none⟩ = some (.slice A52 ls2.length cc52)∧w'.cell? ⟨g,og + i * 15 + 13,none⟩ = some (.slice A62 args2.length cc62)∧w'.cell? ⟨g,og + i * 15 + 14,none⟩ = some (.slice A72 arms2.length cc72))∧(w'.cell? ⟨g',og' + i * 15,none⟩ = some (.int .i64 k3)∧w'.cell? ⟨g',og' + i * 15 + 1,none⟩ = some (.int .i64 a3')∧w'.cell? ⟨g',og' + i * 15 + 2,none⟩ = some (.string ⟨nm3.toArray⟩)∧w'.cell? ⟨g',og' + i * 15 + 3,none⟩ = some (.int .i64 n3)∧w'.cell? ⟨g',og' + i * 15 + 4,none⟩ = some (.string ⟨s3.toArray⟩)∧w'.cell? ⟨g',og' + i * 15 + 5,none⟩ = some (.slice A53' ls3.length cc53')∧w'.cell? ⟨g',og' + i * 15 + 6,none⟩ = some (.slice A63' args3.length cc63')∧w'.cell? ⟨g',og' + i * 15 + 7,none⟩ = some (.int .i64 k2)∧w'.cell? ⟨g',og' + i * 15 + 8,none⟩ = some (.int .i64 a2')∧w'.cell? ⟨g',og' + i * 15 + 9,none⟩ = some (.string ⟨nm2.toArray⟩)∧w'.cell? ⟨g',og' + i * 15 + 10,none⟩ = some (.int .i64 n2)∧w'.cell? ⟨g',og' + i * 15 + 11,none⟩ = some (.string ⟨s2.toArray⟩)∧w'.cell? ⟨g',og' + i * 15 + 12,none⟩ = some (.slice A52' ls2.length cc52')∧w'.cell? ⟨g',og' + i * 15 + 13,none⟩ = some (.slice A62' args2.length cc62')∧w'.cell? ⟨g',og' + i * 15 + 14,none⟩ = some (.slice A72' arms2.length cc72'))) (first | go_keep | exact ⟨t6,t6',⟨x0,x1,x2,x3,x4,x5,x6,x7,x8,x9,x10,x11,x12,x13,x14⟩,y0,y1,y2,y3,y4,y5,y6,y7,y8,y9,y10,y11,y12,y13,y14⟩) ((first | ((with_reducible refine cP.out.mono ?_);rintro e w3 ⟨rfl,f3⟩;have t6:=kc (w:=wr.drew) f3 t6 hTa;have t6':=kc (w:=wr.drew) f3 t6' hTb;have x0:=kc (w:=wr.drew) f3 x0 hgw;have y0:=kc (w:=wr.drew) f3 y0 hgw';have x1:=kc (w:=wr.drew) f3 x1 hgw;have y1:=kc (w:=wr.drew) f3 y1 hgw';have x2:=kc (w:=wr.drew) f3 x2 hgw;have y2:=kc (w:=wr.drew) f3 y2 hgw';have x3:=kc (w:=wr.drew) f3 x3 hgw;have y3:=kc (w:=wr.drew) f3 y3 hgw';have x4:=kc (w:=wr.drew) f3 x4 hgw;have y4:=kc (w:=wr.drew) f3 y4 hgw';have x5:=kc (w:=wr.drew) f3 x5 hgw;have y5:=kc (w:=wr.drew) f3 y5 hgw';have x6:=kc (w:=wr.drew) f3 x6 hgw;have y6:=kc (w:=wr.drew) f3 y6 hgw';have x7:=kc (w:=wr.drew) f3 x7 hgw;have y7:=kc (w:=wr.drew) f3 y7 hgw';have x8:=kc (w:=wr.drew) f3 x8 hgw;have y8:=kc (w:=wr.drew) f3 y8 hgw';have x9:=kc (w:=wr.drew) f3 x9 hgw;have y9:=kc (w:=wr.drew) f3 y9 hgw';have x10:=kc (w:=wr.drew) f3 x10 hgw;have y10:=kc (w:=wr.drew) f3 y10 hgw';have x11:=kc (w:=wr.drew) f3 x11 hgw;have y11:=kc (w:=wr.drew) f3 y11 hgw';have x12:=kc (w:=wr.drew) f3 x12 hgw;have y12:=kc (w:=wr.drew) f3 y12 hgw';have x13:=kc (w:=wr.drew) f3 x13 hgw;have y13:=kc (w:=wr.drew) f3 y13 hgw';have x14:=kc (w:=wr.drew) f3 x14 hgw;have y14:=kc (w:=wr.drew) f3 y14 hgw') | ((with_reducible refine (cE w3 (((Fr.refl [] wr).drew).trans f3)).out.mono ?_);rintro e w4 ⟨rfl,f4⟩;have t6:=kc (w:=w3) f4 t6 (Nat.lt_of_lt_of_le hTa f3.size);have t6':=kc (w:=w3) f4 t6' (Nat.lt_of_lt_of_le hTb f3.size);have x0:=kc (w:=w3) f4 x0 (Nat.lt_of_lt_of_le hgw f3.size);have y0:=kc (w:=w3) f4 y0 (Nat.lt_of_lt_of_le hgw' f3.size);have x1:=kc (w:=w3) f4 x1 (Nat.lt_of_lt_of_le hgw f3.size);have y1:=kc (w:=w3) f4 y1 (Nat.lt_of_lt_of_le hgw' f3.size);have x2:=kc (w:=w3) f4 x2 (Nat.lt_of_lt_of_le hgw f3.size);have y2:=kc (w:=w3) f4 y2 (Nat.lt_of_lt_of_le hgw' f3.size);have x3:=kc (w:=w3) f4 x3 (Nat.lt_of_lt_of_le hgw f3.size);have y3:=kc (w:=w3) f4 y3 (Nat.lt_of_lt_of_le hgw' f3.size);have x4:=kc (w:=w3) f4 x4 (Nat.lt_of_lt_of_le hgw f3.size);have y4:=kc (w:=w3) f4 y4 (Nat.lt_of_lt_of_le hgw' f3.size);have x5:=kc (w:=w3) f4 x5 (Nat.lt_of_lt_of_le hgw f3.size);have y5:=kc (w:=w3) f4 y5 (Nat.lt_of_lt_of_le hgw' f3.size);have x6:=kc (w:=w3) f4 x6 (Nat.lt_of_lt_of_le hgw f3.size);have y6:=kc (w:=w3) f4 y6 (Nat.lt_of_lt_of_le hgw' f3.size);have x7:=kc (w:=w3) f4 x7 (Nat.lt_of_lt_of_le hgw f3.size);have y7:=kc (w:=w3) f4 y7 (Nat.lt_of_lt_of_le hgw' f3.size);have x8:=kc (w:=w3) f4 x8 (Nat.lt_of_lt_of_le hgw f3.size);have y8:=kc (w:=w3) f4 y8 (Nat.lt_of_lt_of_le hgw' f3.size);have x9:=kc (w:=w3) f4 x9 (Nat.lt_of_lt_of_le hgw f3.size);have y9:=kc (w:=w3) f4 y9 (Nat.lt_of_lt_of_le hgw' f3.size);have x10:=kc (w:=w3) f4 x10 (Nat.lt_of_lt_of_le hgw f3.size);have y10:=kc (w:=w3) f4 y10 (Nat.lt_of_lt_of_le hgw' f3.size);have x11:=kc (w:=w3) f4 x11 (Nat.lt_of_lt_of_le hgw f3.size);have y11:=kc (w:=w3) f4 y11 (Nat.lt_of_lt_of_le hgw' f3.size);have x12:=kc (w:=w3) f4 x12 (Nat.lt_of_lt_of_le hgw f3.size);have y12:=kc (w:=w3) f4 y12 (Nat.lt_of_lt_of_le hgw' f3.size);have x13:=kc (w:=w3) f4 x13 (Nat.lt_of_lt_of_le hgw f3.size);have y13:=kc (w:=w3) f4 y13 (Nat.lt_of_lt_of_le hgw' f3.size);have x14:=kc (w:=w3) f4 x14 (Nat.lt_of_lt_of_le hgw f3.size);have y14:=kc (w:=w3) f4 y14 (Nat.lt_of_lt_of_le hgw' f3.size))))
     go_wp2_with fail
     go_roundw
     case rel => exact ⟨i + 1,by simp,by omega,fq.trans ((((Fr.refl [] wr).drew).trans f3).trans f4)⟩
     case measure => simp [intOf];omega
    ·have ei:i = arms.length:=by omega
     subst ei
     go_wp2_with fail
     go_ret
     exact ⟨rfl,f⟩
theorem same_all:∀ N,SME N
 | 0 => fun _ _ _ _ _ _ _ _ _ _ _ _ _ _ _ _ _ _ _ _ _ _ _ _ _ _ _ h => absurd h (Nat.not_lt_zero _)
 | N + 1 => fun k a a' nm n s ls args args' arms arms' A5 A5' cc5 cc5' A6 A6' cc6 cc6' A7 A7' cc7 cc7' pl w ok ok' hN hz hx hy hS hM hp => by
  cases pl with
  | true => exact same_true N (same_all N) k a a' nm n s ls args args' arms arms' A5 A5' cc5 cc5' A6 A6' cc6 cc6' A7 A7' cc7 cc7' w ok ok' hN hz hx hy hS hM hp
  | false => exact same_false N (same_all N) k a a' nm n s ls args args' arms arms' A5 A5' cc5 cc5' A6 A6' cc6 cc6' A7 A7' cc7 cc7' w ok ok' hN hz hx hy hS hM hp
end Go.Proofs.YtpjkfeehgookkaaGreatDoor
namespace Go.Proofs.YtpjkfeehgookkaaGreatDoor
open Go.RowKit
theorem partsPs_same:∀ (l l':List PatT) (d:Nat),l.length = l'.length→(∀ (i:Nat) (x y:PatT),l[i]? = some x→l'[i]? = some y→∀ d,(partsP x d).map Prod.snd = (partsP y d).map Prod.snd)→(partsPs l d).map Prod.snd = (partsPs l' d).map Prod.snd
 | [],[],d,_,_ => rfl
 | [],_ :: _,d,h,_ => by simp at h
 | _ :: _,[],d,h,_ => by simp at h
 | x :: l,y :: l',d,hl,h => by
  rw [partsPs,partsPs,List.map_append,List.map_append,h 0 x y rfl rfl d,partsPs_same l l' d (by simpa using hl) (fun i x y hx hy => h (i + 1) x y (by simpa using hx) (by simpa using hy))]
theorem partsEs_same:∀ (l l':List ExprT) (d:Nat),l.length = l'.length→(∀ (i:Nat) (x y:ExprT),l[i]? = some x→l'[i]? = some y→∀ d,(partsE x d).map Prod.snd = (partsE y d).map Prod.snd)→(partsEs l d).map Prod.snd = (partsEs l' d).map Prod.snd
 | [],[],d,_,_ => rfl
 | [],_ :: _,d,h,_ => by simp at h
 | _ :: _,[],d,h,_ => by simp at h
 | x :: l,y :: l',d,hl,h => by
  rw [partsEs,partsEs,List.map_append,List.map_append,h 0 x y rfl rfl d,partsEs_same l l' d (by simpa using hl) (fun i x y hx hy => h (i + 1) x y (by simpa using hx) (by simpa using hy))]
theorem partsAs_same:∀ (l l':List (PatT × ExprT)) (d:Nat),l.length = l'.length→(∀ (i:Nat) (p p':PatT) (x y:ExprT),l[i]? = some (p,x)→l'[i]? = some (p',y)→∀ d,(partsP p d).map Prod.snd = (partsP p' d).map Prod.snd) →
  (∀ (i:Nat) (p p':PatT) (x y:ExprT),l[i]? = some (p,x)→l'[i]? = some (p',y)→∀ d,(partsE x d).map Prod.snd = (partsE y d).map Prod.snd)→(partsAs l d).map Prod.snd = (partsAs l' d).map Prod.snd
 | [],[],d,_,_,_ => rfl
 | [],_ :: _,d,h,_,_ => by simp at h
 | _ :: _,[],d,h,_,_ => by simp at h
 | (p,x) :: l,(p',y) :: l',d,hl,hp,h => by
  rw [partsAs,partsAs,List.map_append,List.map_append,partsAs_same l l' d (by simpa using hl) (fun i p p' x y hx hy => hp (i + 1) p p' x y (by simpa using hx) (by simpa using hy)) (fun i p p' x y hx hy => h (i + 1) p p' x y (by simpa using hx) (by simpa using hy)),
   partsA,partsA,List.map_append,List.map_append,hp 0 p p' x y rfl rfl d,h 0 p p' x y rfl rfl d]
theorem SameP.parts {x y:PatT} (h:SameP x y):∀ d,(partsP x d).map Prod.snd = (partsP y d).map Prod.snd:=by
 induction h with
 | mk hl h ih => intro d;rw [partsP_mk,partsP_mk,List.map_cons,List.map_cons,partsPs_same _ _ (d + 1) hl ih]
theorem SameE.parts {x y:ExprT} (h:SameE x y):∀ d,(partsE x d).map Prod.snd = (partsE y d).map Prod.snd:=by
 induction h with
 | mk hl h hl2 hp hx ih ih2 =>
  intro d
  rw [partsE_mk,partsE_mk,List.map_cons,List.map_cons,List.map_append,List.map_append,partsEs_same _ _ (d + 1) hl ih,partsAs_same _ _ (d + 1) hl2 (fun i p p' x y h1 h2 => (hp i p p' x y h1 h2).parts) ih2]
theorem SameE.sz {x y:ExprT} (h:SameE x y):szE y = szE x:=by
 have:=congrArg List.length (h.parts 1)
 rw [List.length_map,List.length_map,partsE_len,partsE_len] at this
 exact this.symm
theorem SameE.deep {x y:ExprT} (h:SameE x y) (m:Int):deepOf m x = none ↔ deepOf m y = none:=by
 have key:∀ x,deepOf m x = none ↔ ∀ d ∈ (partsE x 1).map Prod.snd,¬ m < (d:Int):=fun x => by
  unfold deepOf
  rw [List.find?_eq_none]
  simp
  exact ⟨fun h d a => h a d,fun h a d => h d a⟩
 rw [key,key,h.parts 1]
end Go.Proofs.YtpjkfeehgookkaaGreatDoor
namespace Go.Proofs.YtpjkfeehgookkaaGreatDoor
open Go.RowKit
theorem ExprAt.lens {w:World} {ok:Nat→Prop} {k a:Int} {nm:List UInt8} {n:Int} {s:List UInt8} {ls:List (List UInt8)} {args:List ExprT} {arms:List (PatT × ExprT)} {A5:Option Addr} {n5 c5:Nat} {A6:Option Addr} {n6 c6:Nat} {A7:Option Addr} {n7 c7:Nat} {a0 a1 a2 a3 a4:Value}
  (h:ExprAt w ok (.mk k a nm n s ls args arms) [a0,a1,a2,a3,a4,.slice A5 n5 c5,.slice A6 n6 c6,.slice A7 n7 c7]):n5 = ls.length∧n6 = args.length∧n7 = arms.length:=by
 cases h with
 | mk _ _ _ _ h5 _ h6 _ h7 _ _ => exact ⟨h5.len,h6.len,h7.len⟩
theorem Same_any {k a:Int} {nm:List UInt8} {n:Int} {s:List UInt8} {ls:List (List UInt8)} {args:List ExprT} {arms:List (PatT × ExprT)} {k' a':Int} {nm':List UInt8} {n':Int} {s':List UInt8} {ls':List (List UInt8)} {args':List ExprT} {arms':List (PatT × ExprT)}
  (hS:SameE (.mk k a nm n s ls args arms) (.mk k' a' nm' n' s' ls' args' arms')) (hz:laE (.mk k a nm n s ls args arms)≤1099511627776)
  (A5 A5':Option Addr) (n5 n5' cc5 cc5':Nat) (A6 A6':Option Addr) (n6 n6' cc6 cc6':Nat) (A7 A7':Option Addr) (n7 n7' cc7 cc7':Nat) (w:World) (ok ok':Nat→Prop)
  (hx:ExprAt w ok (.mk k a nm n s ls args arms) [.int .i64 k,.int .i64 a,.string ⟨nm.toArray⟩,.int .i64 n,.string ⟨s.toArray⟩,.slice A5 n5 cc5,.slice A6 n6 cc6,.slice A7 n7 cc7])
  (hy:ExprAt w ok' (.mk k' a' nm' n' s' ls' args' arms') [.int .i64 k',.int .i64 a',.string ⟨nm'.toArray⟩,.int .i64 n',.string ⟨s'.toArray⟩,.slice A5' n5' cc5',.slice A6' n6' cc6',.slice A7' n7' cc7']) :
  Calls Tryz.prog 14 #[.agg #[.int .i64 k,.int .i64 a,.string ⟨nm.toArray⟩,.int .i64 n,.string ⟨s.toArray⟩,.slice A5 n5 cc5,.slice A6 n6 cc6,.slice A7 n7 cc7],.agg #[.int .i64 k',.int .i64 a',.string ⟨nm'.toArray⟩,.int .i64 n',.string ⟨s'.toArray⟩,.slice A5' n5' cc5',.slice A6' n6' cc6',.slice A7' n7' cc7'],.bool false] w fun e w' => e = .returned (.bool true)∧Fr [] w w':=by
 obtain ⟨rfl,rfl,rfl⟩:=hx.lens
 obtain ⟨rfl,rfl,rfl⟩:=hy.lens
 cases hS with
 | mk hl h hl2 hp hx2 =>
  rw [← hl,← hl2] at hy ⊢
  exact same_all _ _ _ _ _ _ _ _ _ _ _ _ _ _ _ _ _ _ _ _ _ _ _ _ false w ok ok' (Nat.lt_succ_self _) hz hx hy ⟨hl,h⟩ ⟨hl2,fun i x y h1 h2 => ⟨hp i x.1 y.1 x.2 y.2 h1 h2,hx2 i x.1 y.1 x.2 y.2 h1 h2⟩⟩ (fun h => by cases h)
theorem PR.la {s:List UInt8} {x:ExprT} {er p:Int} (h:PR s x er p):laE x≤1099511627776:=by
 have hz:laE .zero≤1099511627776:=by decide
 cases h with
 | lexErr => exact hz
 | syn => exact hz
 | many => exact hz
 | deep => exact hz
 | @ok ts _ st' t hl hr ht hok hend hm hd =>
  have h1:laE x + 1≤0 + 2 * (st'.i - 0):=hr.laCost (b:=0) (lwtE .seq) hok
  have h2:=(List.getElem?_eq_some_iff.1 ht).1
  have h3:=(endOk_of hl).1
  omega
theorem PR.sz {s:List UInt8} {x:ExprT} {er p:Int} (h:PR s x er p):szE x≤4096:=by
 have hz:szE .zero≤4096:=by decide
 cases h with
 | lexErr => exact hz
 | syn => exact hz
 | many => exact hz
 | deep => exact hz
 | ok hl hr ht hok hend hm hd => exact hm
theorem ExprAt.fr {w w':World} {x:ExprT} {cs:List Value} (h:ExprAt w (fun b => b < w.heap.size) x cs) (f:Fr [] w w'):ExprAt w' (fun b => b < w'.heap.size) x cs :=
 h.keep (Sh.of_fr f (fun b hb _ => ⟨by have:=f.size;omega,fun x => by cases x⟩))
theorem ExprAt.fr0 {w w':World} {B:Nat} {x:ExprT} {cs:List Value} (h:ExprAt w (fun b => B≤b) x cs) (f:Fr [] w w'):ExprAt w' (fun b => b < w'.heap.size) x cs :=
 h.keep (Sh.of_fr f (fun b _ hlt => ⟨by have:=f.size;omega,fun x => by cases x⟩))
end Go.Proofs.YtpjkfeehgookkaaGreatDoor
namespace Go.Proofs.YtpjkfeehgookkaaGreatDoor
open Go.RowKit
theorem takeWhile_close (p:UInt8→Bool) (hp:p 41 = false) (b:List UInt8):∀ l:List UInt8,(l ++ 41 :: b).takeWhile p = l.takeWhile p
 | [] => by rw [List.nil_append,List.takeWhile_cons_of_neg (by simp [hp])];rfl
 | c :: l => by
  by_cases h:p c = true
  ·rw [List.cons_append,List.takeWhile_cons_of_pos h,List.takeWhile_cons_of_pos h,takeWhile_close p hp b l]
  ·rw [List.cons_append,List.takeWhile_cons_of_neg h,List.takeWhile_cons_of_neg h]
theorem signs_short:∀ x ∈ signsL,x.length≤2∧x[1]? ≠ some 41:=by decide
theorem sign_close (c:UInt8) (r b:List UInt8) {x:List UInt8} (hx:x ∈ signsL):x.isPrefixOf (c :: (r ++ 41 :: b)) = x.isPrefixOf (c :: r):=by
 rw [Bool.eq_iff_iff,List.isPrefixOf_iff_prefix,List.isPrefixOf_iff_prefix]
 obtain ⟨h1,h2⟩:=signs_short x hx
 constructor
 ·intro h
  cases r with
  | cons d r => exact List.prefix_of_prefix_length_le h (List.prefix_append (c :: d :: r) (41 :: b)) (by simp only [List.length_cons];omega)
  | nil =>
   rcases Nat.lt_or_ge 1 x.length with hl | hl
   ·exfalso
    obtain ⟨t,ht⟩:=h
    have h3:(x ++ t)[1]? = some 41:=by rw [ht];rfl
    rw [List.getElem?_append_left hl] at h3
    exact h2 h3
   ·exact List.prefix_of_prefix_length_le h (List.prefix_append [c] (41 :: b)) (by simpa using hl)
 ·intro h;exact h.trans (List.prefix_append (c :: r) (41 :: b))
theorem tok_close {c:UInt8} {r:List UInt8} {x:Int × List UInt8 × Int × Nat} (h:tok (c :: r) = .ok x) (b:List UInt8):tok (c :: (r ++ 41 :: b)) = .ok x:=by
 have e1:runL (c :: (r ++ 41 :: b)) = runL (c :: r):=takeWhile_close bodyB (by decide) b (c :: r)
 have e2:runL (r ++ 41 :: b) = runL r:=takeWhile_close bodyB (by decide) b r
 have eh:(r ++ 41 :: b).head?.any greatB = r.head?.any greatB:=by cases r <;> rfl
 have e3:signsL.find? (fun x => x.isPrefixOf (c :: (r ++ 41 :: b))) = signsL.find? (fun x => x.isPrefixOf (c :: r)):=find_congr _ (fun x hx => sign_close c r b hx)
 have hq:c = 34→∃ k,qlen r = some k:=fun h34 => by
  subst h34
  rw [tok,if_neg (by decide),if_neg (by decide),if_neg (fun x => absurd x.1 (by decide)),if_neg (by decide),if_pos rfl] at h
  cases eq:qlen r with
  | none => rw [eq] at h;cases h
  | some k => exact ⟨k,rfl⟩
 rw [← h]
 unfold tok
 simp only [e1,e2,eh,e3]
 by_cases h34:c = 34
 ·obtain ⟨k,hk⟩:=hq h34
  subst h34
  have hqq:qlen (r ++ 41 :: b) = some k:=q2_app (41 :: b) r false k hk
  have hle:=q2_le r false k hk
  have et:(34 :: (r ++ 41 :: b)).take (1 + k) = (34 :: r).take (1 + k):=by
   rw [← List.cons_append,List.take_append_of_le_length (by simp;omega)]
  rw [hqq,hk]
  simp only [et]
 ·simp only [if_neg h34]
theorem tok41 (b:List UInt8):tok (41 :: b) = .ok (7,[41],0,1):=by rfl
theorem tok40 (b:List UInt8):tok (40 :: b) = .ok (7,[40],0,1):=by rfl
def joinC (ts:List Tok) (a:Nat):Except (Int × Nat) (List Tok)→Except (Int × Nat) (List Tok)
 | .error e => .error e
 | .ok ys => .ok (ts.dropLast ++ ⟨7,a,[41],0⟩ :: ys)
theorem lexL_close (b:List UInt8):∀ (f a:Nat) (l:List UInt8) (ts:List Tok),l.length≤f→lexL f a l = .ok ts→∀ g,l.length + 1 + b.length≤g →
  lexL g a (l ++ 41 :: b) = joinC ts (a + l.length) (lexL b.length (a + l.length + 1) b)
 | f,a,[],ts,_,h,g,hg => by
  rw [lexL_nil] at h;cases h
  obtain ⟨g',rfl⟩:∃ g',g = g' + 1:=⟨g - 1,by simp at hg;omega⟩
  rw [List.nil_append,lexL_tok g' a b (by rfl),tok41,List.length_nil,Nat.add_zero]
  simp only [List.drop_succ_cons,List.drop_zero]
  rw [lexL_fuel b.length g' b.length (a + 1) b (by omega) (by simp at hg;omega) (by omega)]
  cases lexL b.length (a + 1) b with
  | error x => rfl
  | ok ys => rfl
 | 0,a,c :: r,ts,hf,_,_,_ => by simp at hf
 | f + 1,a,c :: r,ts,hf,h,g,hg => by
  simp only [List.length_cons] at hf hg ⊢
  obtain ⟨g',rfl⟩:∃ g',g = g' + 1:=⟨g - 1,by omega⟩
  rw [List.cons_append]
  cases hb:blankB c with
  | true =>
   rw [lexL_blank f a r hb] at h
   rw [lexL_blank g' a _ hb,lexL_close b f (a + 1) r ts (by omega) h g' (by omega)]
   rw [show a + 1 + r.length = a + (r.length + 1) by omega]
  | false =>
   rw [lexL_tok f a r hb] at h
   rw [lexL_tok g' a _ hb]
   cases ht:tok (c :: r) with
   | error x => rw [ht] at h;cases h
   | ok x =>
    obtain ⟨k,t,n,m⟩:=x
    have hm:=tok_len ht
    rw [List.length_cons] at hm
    rw [ht] at h
    rw [tok_close ht b]
    simp only at h ⊢
    cases hl:lexL f (a + m) ((c :: r).drop m) with
    | error x => rw [hl] at h;cases h
    | ok l' =>
     rw [hl] at h;cases h
     have ed:(c :: (r ++ 41 :: b)).drop m = (c :: r).drop m ++ 41 :: b:=by
      rw [← List.cons_append,List.drop_append_of_le_length (by simpa using hm.2)]
     have ln:((c :: r).drop m).length = r.length + 1 - m:=by rw [List.length_drop,List.length_cons]
     rw [ed,lexL_close b f (a + m) _ l' (by rw [ln];omega) hl g' (by rw [ln];omega),ln]
     have e2:a + m + (r.length + 1 - m) = a + (r.length + 1):=by omega
     rw [e2]
     obtain ⟨ys,hys,_⟩:=lexL_last hl
     cases lexL b.length (a + (r.length + 1) + 1) b with
     | error x => rfl
     | ok zs =>
      have hn:l' ≠ []:=by rw [hys];simp
      simp only [joinC,List.dropLast_cons_of_ne_nil hn,List.cons_append]
abbrev Sp:=Int × List UInt8 × Int
def stR:Except (Int × Nat) (List Tok)→Option (List Sp)
 | .error _ => none
 | .ok ts => some (ts.map stripT)
theorem stR_shift (d:Nat) (r:Except (Int × Nat) (List Tok)):stR (shiftR d r) = stR r:=by
 cases r with
 | error e => rfl
 | ok ts => simp [stR,shiftR,stripT,shiftT]
def lexS (l:List UInt8):Option (List Sp):=stR (lexL l.length 0 l)
theorem lexS_at {f:Nat} (a:Nat) {l:List UInt8} (hf:l.length≤f):stR (lexL f a l) = lexS l:=by
 have h:=lexL_shift a f 0 l
 rw [Nat.zero_add] at h
 rw [h,stR_shift,lexL_fuel l.length f l.length 0 l (Nat.le_refl _) hf (Nat.le_refl _)]
 rfl
theorem lexS_tok {c:UInt8} {r:List UInt8} {k:Int} {t:List UInt8} {n:Int} {m:Nat} (hc:blankB c = false) (ht:tok (c :: r) = .ok (k,t,n,m)):lexS (c :: r) = (lexS ((c :: r).drop m)).map ((k,t,n) :: ·):=by
 have hm:=tok_len ht
 rw [List.length_cons] at hm
 have key:=lexS_at (f:=r.length) (0 + m) (l:=(c :: r).drop m) (by rw [List.length_drop,List.length_cons];omega)
 rw [← key]
 unfold lexS
 rw [List.length_cons,lexL_tok _ _ _ hc,ht]
 simp only
 cases lexL r.length (0 + m) ((c :: r).drop m) with
 | error e => rfl
 | ok l => rfl
theorem lexS_open (l:List UInt8):lexS (40 :: l) = (lexS l).map ((7,[40],0) :: ·):=lexS_tok (by rfl) (tok40 l)
theorem lexS_close {l:List UInt8} {L:List Sp} (h:lexS l = some (L ++ [(0,[],0)])) (b:List UInt8):lexS (l ++ 41 :: b) = (lexS b).map fun x => L ++ (7,[41],0) :: x:=by
 unfold lexS at h
 cases hl:lexL l.length 0 l with
 | error e => rw [hl] at h;cases h
 | ok ts =>
  rw [hl] at h
  simp only [stR,Option.some.injEq] at h
  have h2:=lexL_close b l.length 0 l ts (Nat.le_refl _) hl (l ++ 41 :: b).length (by rw [List.length_append,List.length_cons];omega)
  rw [← lexS_at (f:=b.length) (0 + l.length + 1) (Nat.le_refl _)]
  unfold lexS
  rw [h2]
  cases lexL b.length (0 + l.length + 1) b with
  | error e => rfl
  | ok ys =>
   obtain ⟨zs,rfl,_⟩:=lexL_last hl
   rw [List.map_append] at h
   have h3:=List.append_inj_left' h rfl
   simp only [joinC,stR,Option.map_some,List.dropLast_concat,List.map_append,List.map_cons,h3]
   rfl
theorem lexS_of {s:List UInt8} {ts:List Tok} (h:lexOf s = .ok ts):lexS s = some (ts.map stripT):=by
 unfold lexOf at h
 split at h
 ·cases h
 ·unfold lexS;rw [h];rfl
theorem lexOf_S {s:List UInt8} {L:List Sp} (h:lexS s = some L) (hs:s.length≤4096):∃ ts,lexOf s = .ok ts∧ts.map stripT = L:=by
 unfold lexS at h
 cases hl:lexL s.length 0 s with
 | error e => rw [hl] at h;cases h
 | ok ts => rw [hl] at h;cases h;exact ⟨ts,by unfold lexOf;rw [if_neg (by omega),hl],rfl⟩
theorem lexS_end {s:List UInt8} {ts:List Tok} (h:lexOf s = .ok ts):∃ L,ts.map stripT = L ++ [(0,[],0)]∧lexS s = some (L ++ [(0,[],0)])∧ts.length = L.length + 1:=by
 have h1:=lexS_of h
 obtain ⟨_,_,_,_,ys,rfl,_⟩:=lexOf_ok h
 refine ⟨ys.map stripT,by rw [List.map_append];rfl,?_,by simp⟩
 rw [h1,List.map_append];rfl
theorem tok_of {ts:List Tok} {L:List Sp} (h:ts.map stripT = L) {i:Nat} {k:Int} {tx:List UInt8} {n:Int} (hi:L[i]? = some (k,tx,n)):∃ a,ts[i]? = some ⟨k,a,tx,n⟩:=by
 subst h
 rw [List.getElem?_map] at hi
 cases hu:ts[i]? with
 | none => rw [hu] at hi;cases hi
 | some u =>
  rw [hu] at hi
  obtain ⟨q',a',tx',n'⟩:=u
  simp only [stripT,Option.map_some,Option.some.injEq,Prod.mk.injEq] at hi
  obtain ⟨rfl,rfl,rfl⟩:=hi
  exact ⟨a',rfl⟩
theorem strip_of {ts:List Tok} {L:List Sp} (h:ts.map stripT = L) {i:Nat} {k:Int} {a:Nat} {tx:List UInt8} {n:Int} (hi:ts[i]? = some ⟨k,a,tx,n⟩):L[i]? = some (k,tx,n):=by
 subst h
 rw [List.getElem?_map,hi];rfl
def Shut (t:Tok):Prop:=wordT t = true∧t.text = [41]
theorem isB_shut {t:Tok} (h:Shut t) (ok:Bool) {l:List (List UInt8)} (hl:l.contains [41] = false):isB t ok l = false:=by
 unfold isB
 rw [h.2,hl]
 simp
theorem shut_k {t:Tok} (h:Shut t):t.k = 6 ∨ t.k = 7:=by
 have:=h.1
 simpa [wordT] using this
section
variable {t:Tok} (H:Shut t)
include H
theorem shut_may {s:List UInt8} {k:Bool→Cmd} (hs:[s].contains [41] = false) (h:Dead t (k false)):Dead t (mayC s k):=.look fun ok => by
 rw [isB_shut H ok hs,if_neg (by decide)];exact h
theorem shut_is {l:List (List UInt8)} {k:Bool→Cmd} (hs:l.contains [41] = false) (h:Dead t (k false)):Dead t (isC l k):=.look fun ok => by
 rw [isB_shut H ok hs];exact h
theorem shut_begins (ok:Bool):beginsB t ok = false:=by
 unfold beginsB
 rw [isB_shut H ok (by decide)]
 rcases shut_k H with h | h <;> rw [h] <;> cases ok <;> rfl
theorem shut_atom:Dead t (body .atom):=.look fun ok => by
 rw [shut_begins H,if_neg (by simp)]
 exact .fail
theorem shut_post:Dead t (body .post):=.look fun ok => shut_may H (by decide) (by rw [if_neg (by decide)];exact .callE (shut_atom H))
theorem shut_app:Dead t (body .app):=.look fun ok => by
 rw [if_neg (by rcases shut_k H with h | h <;> rw [h] <;> cases ok <;> decide),if_neg (by rw [H.2];simp [calledOf])]
 exact .callE (shut_post H)
theorem shut_unary:Dead t (body .unary):=.look fun ok => shut_may H (by decide) (by rw [if_neg (by decide)];exact shut_may H (by decide) (by rw [if_neg (by decide)];exact .callE (shut_app H)))
theorem shut_prod:Dead t (body .prod):=.callE (shut_unary H)
theorem shut_sum:Dead t (body .sum):=.callE (shut_prod H)
theorem shut_cmp:Dead t (body .cmp):=.callE (shut_sum H)
theorem shut_and:Dead t (body .and):=.callE (shut_cmp H)
theorem shut_or:Dead t (body .or):=.callE (shut_and H)
theorem shut_item:Dead t (body .item):=by
 refine .look fun ok => shut_may H (by decide) ?_
 rw [if_neg (by decide)]
 refine shut_is H (by decide) ?_
 rw [if_neg (by decide)]
 refine shut_may H (by decide) ?_
 rw [if_neg (by decide)]
 refine shut_may H (by decide) ?_
 rw [if_neg (by decide)]
 refine shut_may H (by decide) ?_
 rw [if_neg (by decide)]
 refine shut_may H (by decide) ?_
 rw [if_neg (by decide)]
 exact .callE (shut_or H)
theorem shut_seq:Dead t (body .seq):=.callE (shut_item H)
end
theorem Run.mayN {ts:List Tok} {i:Nat} {ok:Bool} {t:Tok} (ht:ts[i]? = some t) {s:List UInt8} (hb:isB t ok [s] = false) {k:Bool→Cmd} {r:Rs} {st':St} (h:Run ts (k false) ⟨i,ok⟩ r st'):Run ts (mayC s k) ⟨i,ok⟩ r st' :=
 .look ht (by simp only;rw [hb,if_neg (by decide)];exact h)
theorem Run.mustY {ts:List Tok} {i:Nat} {ok:Bool} {t:Tok} (ht:ts[i]? = some t) {s:List UInt8} (hb:isB t ok [s] = true) {k:Cmd} {r:Rs} {st':St} (h:Run ts k ⟨i + 1,ok⟩ r st'):Run ts (mustC s k) ⟨i,ok⟩ r st' :=
 .look ht (by simp only;rw [hb,if_pos rfl];exact .adv h)
theorem atom_of_seq {us:List Tok} {d e a b:Nat} {m m':Int} {x:ExprT} {u:Tok} (h0:us[d]? = some ⟨7,a,[40],m⟩) (h1:us[d + 1]? = some u) (hu:isB u true [[41]] = false) (hr:Run us (body .seq) ⟨d + 1,true⟩ (.e x) ⟨e,true⟩) (h2:us[e]? = some ⟨7,b,[41],m'⟩) :
  Run us (body .atom) ⟨d,true⟩ (.e x) ⟨e + 1,true⟩:=by
 refine .look h0 ?_
 simp only
 rw [if_pos (by rfl)]
 refine .adv ?_
 simp only
 rw [if_neg (by decide),if_neg (by decide),if_neg (by decide),if_neg (by decide),if_neg (by decide),if_neg (by decide),if_neg (by decide)]
 refine Run.mayN h1 hu ?_
 rw [if_neg (by decide)]
 exact .callE hr (.mustY h2 (by rfl) .retE)
theorem atom_run {ts us:List Tok} {d n:Nat} {x:ExprT} (hE:EndsT ts) (hE2:EndsT us) (hlen:ts.length = n + 1) {a b:Nat} {m m':Int} (h0:us[d]? = some ⟨7,a,[40],m⟩)
  (hT:∀ (j:Nat) (q:Int) (a:Nat) (tx:List UInt8) (n':Int),j < n→ts[j]? = some ⟨q,a,tx,n'⟩→∃ a',us[j + (d + 1)]? = some ⟨q,a',tx,n'⟩)
  (hC:us[n + (d + 1)]? = some ⟨7,b,[41],m'⟩) (hr:Run ts (body .seq) ⟨0,true⟩ (.e x) ⟨n,true⟩):∃ y,SameE x y∧Run us (body .atom) ⟨d,true⟩ (.e y) ⟨n + d + 2,true⟩:=by
 have hT2:∀ (j:Nat) (q:Int) (a:Nat) (tx:List UInt8) (n':Int),ts[j]? = some ⟨q,a,tx,n'⟩→(∃ a',us[j + (d + 1)]? = some ⟨q,a',tx,n'⟩) ∨ (True∧q = 0∧∃ a' n'',us[j + (d + 1)]? = some ⟨7,a',[41],n''⟩):=fun j q a tx n' ht => by
  have hj:=(List.getElem?_eq_some_iff.1 ht).1
  by_cases h:j < n
  ·exact .inl (hT j q a tx n' h ht)
  ·have e:j = n:=by omega
   subst e
   refine .inr ⟨trivial,?_,b,m',hC⟩
   by_cases hq:q = 0
   ·exact hq
   ·have:=hE j _ ht hq
    omega
 obtain ⟨r2,hR,hr2⟩:=hr.sim hE hE2 hT2 (crE .seq) (fun _ => rfl)
 cases hR with
 | @e _ y hS =>
  simp only [Nat.zero_add] at hr2
  have hn:0 < ts.length:=by omega
  obtain ⟨t0,ht0⟩:=tok_at hn
  obtain ⟨q,a0,tx,n0⟩:=t0
  have hnd:¬ Dead ⟨q,a0,tx,n0⟩ (body .seq):=fun hd => by
   have:=hd _ _ _ _ _ ht0 hr
   cases this
  have hq:q ≠ 0:=fun h => by subst h;exact hnd dead_seq
  have hns:isB ⟨q,a0,tx,n0⟩ true [[41]] = false:=by
   rw [Bool.eq_false_iff]
   intro hb
   refine hnd (shut_seq ⟨?_,?_⟩)
   ·unfold isB at hb;simp at hb;exact hb.1
   ·unfold isB at hb;simp at hb;exact hb.2
  rcases hT2 _ _ _ _ _ ht0 with ⟨a',h'⟩ | ⟨_,h',_⟩
  ·rw [Nat.zero_add] at h'
   refine ⟨y,hS,?_⟩
   have:=atom_of_seq h0 h' hns hr2 hC
   rw [show n + (d + 1) + 1 = n + d + 2 by omega] at this
   exact this
  ·exact absurd h' hq
def ntOf:Nat→NT
 | 0 => .seq | 1 => .item | 2 => .or | 3 => .and | 4 => .cmp | 5 => .sum | 6 => .prod | _ => .unary
def sgOf:Nat→List (List UInt8)
 | 0 => [[59]] | 1 => [[58,61]] | 2 => [[124,124]] | 3 => [[38,38]] | 4 => [[61],[60]] | 5 => [[43],[45]] | 6 => [[42],[47],[37]] | _ => []
structure Stop (u:Tok) (l:Nat):Prop where
 dot:isB u true [[46]] = false
 beg:beginsB u true = false
 lv:∀ L,l≤L→L < 7→isB u true (sgOf L) = false
def Open (us:List Tok) (i:Nat):Prop:=∃ a m,us[i]? = some ⟨7,a,[40],m⟩
theorem open_not {us:List Tok} {i:Nat} (h:Open us i) {s:List UInt8} (hs:[s].contains [40] = false) {k:Bool→Cmd} {r:Rs} {st':St} (hr:Run us (k false) ⟨i,true⟩ r st'):Run us (mayC s k) ⟨i,true⟩ r st':=by
 obtain ⟨a,m,h⟩:=h
 refine Run.mayN h ?_ hr
 show (true && true && [s].contains [40]) = false
 rw [hs];rfl
theorem unary_of {us:List Tok} {i j:Nat} {x:ExprT} {u:Tok} {l:Nat} (ho:Open us i) (hr:Run us (body .atom) ⟨i,true⟩ (.e x) ⟨j,true⟩) (hu:us[j]? = some u) (hs:Stop u l):Run us (body .unary) ⟨i,true⟩ (.e x) ⟨j,true⟩:=by
 have ho':=ho
 obtain ⟨a,m,h⟩:=ho'
 have hp:Run us (body .post) ⟨i,true⟩ (.e x) ⟨j,true⟩:=by
  refine .look h (open_not ho (by decide) ?_)
  rw [if_neg (by decide)]
  refine .callE hr (.callE (.look hu ?_) .retE)
  simp only
  rw [hs.dot,if_neg (by decide)]
  exact .retE
 have ha:Run us (body .app) ⟨i,true⟩ (.e x) ⟨j,true⟩:=by
  refine .look h ?_
  simp only
  rw [if_neg (by simp),if_neg (by simp)]
  refine .callE hp (.callE (.look hu ?_) .retE)
  simp only
  rw [hs.beg,if_neg (by decide)]
  exact .retE
 refine .look h (open_not ho (by decide) ?_)
 rw [if_neg (by decide)]
 refine open_not ho (by decide) ?_
 rw [if_neg (by decide)]
 exact .callE ha .retE
theorem up_one {us:List Tok} {i j:Nat} {x:ExprT} {u:Tok} (ho:Open us i) (hu:us[j]? = some u):∀ {L:Nat},L < 7→isB u true (sgOf L) = false→Run us (body (ntOf (L + 1))) ⟨i,true⟩ (.e x) ⟨j,true⟩→Run us (body (ntOf L)) ⟨i,true⟩ (.e x) ⟨j,true⟩
 | 0,_,hb,hr => by
  refine .callE hr (.look hu (Run.mayN hu hb ?_))
  rw [if_neg (by decide)];exact .retE
 | 1,_,hb,hr => by
  have ho':=ho
  obtain ⟨a,m,h⟩:=ho'
  refine .look h (open_not ho (by decide) ?_)
  rw [if_neg (by decide)]
  refine .look h ?_
  simp only
  rw [show isB ⟨7,a,[40],m⟩ true [[102,117,110]] = false by rfl,if_neg (by decide)]
  refine open_not ho (by decide) ?_
  rw [if_neg (by decide)]
  refine open_not ho (by decide) ?_
  rw [if_neg (by decide)]
  refine open_not ho (by decide) ?_
  rw [if_neg (by decide)]
  refine open_not ho (by decide) ?_
  rw [if_neg (by decide)]
  refine .callE hr (.look hu (Run.mayN hu hb ?_))
  rw [if_neg (by decide)];exact .retE
 | 2,_,hb,hr => by
  refine .callE hr (.look hu (Run.mayN hu hb ?_))
  rw [if_neg (by decide)];exact .retE
 | 3,_,hb,hr => by
  refine .callE hr (.look hu (Run.mayN hu hb ?_))
  rw [if_neg (by decide)];exact .retE
 | 4,_,hb,hr => by
  refine .callE hr (.look hu ?_)
  simp only
  rw [show isB u true [[61],[60]] = false from hb,if_neg (by decide)];exact .retE
 | 5,_,hb,hr => by
  refine .callE hr (.callE (.look hu ?_) .retE)
  simp only
  rw [show isB u true [[43],[45]] = false from hb,if_neg (by decide)];exact .retE
 | 6,_,hb,hr => by
  refine .callE hr (.callE (.look hu ?_) .retE)
  simp only
  rw [show isB u true [[42],[47],[37]] = false from hb,if_neg (by decide)];exact .retE
 | _ + 7,h,_,_ => by omega
theorem up_to {us:List Tok} {i j:Nat} {x:ExprT} {u:Tok} {l:Nat} (ho:Open us i) (hu:us[j]? = some u) (hs:Stop u l) (L:Nat) (hL:l≤L):∀ (n:Nat),L + n≤7→Run us (body (ntOf (L + n))) ⟨i,true⟩ (.e x) ⟨j,true⟩→Run us (body (ntOf L)) ⟨i,true⟩ (.e x) ⟨j,true⟩
 | 0,_,hr => hr
 | n + 1,h,hr => up_to ho hu hs L hL n (by omega) (up_one ho hu (by omega) (hs.lv _ (by omega) (by omega)) hr)
theorem up_atom {us:List Tok} {i j:Nat} {x:ExprT} {u:Tok} {l:Nat} (ho:Open us i) (hu:us[j]? = some u) (hs:Stop u l) (L:Nat) (hL:l≤L) (h7:L≤7) (hr:Run us (body .atom) ⟨i,true⟩ (.e x) ⟨j,true⟩):Run us (body (ntOf L)) ⟨i,true⟩ (.e x) ⟨j,true⟩ :=
 up_to ho hu hs L hL (7 - L) (by omega) (by rw [show L + (7 - L) = 7 by omega];exact unary_of ho hr hu hs)
theorem stop_end (a:Nat) (tx:List UInt8) (n:Int):Stop ⟨0,a,tx,n⟩ 0:=⟨isB_end _ _ _ _ _,by rfl,fun _ _ _ => isB_end _ _ _ _ _⟩
theorem brackets_run {s:List UInt8} {ts:List Tok} {x:ExprT} {st':St} {t:Tok} (hl:lexOf s = .ok ts) (hr:Run ts (body .seq) ⟨0,true⟩ (.e x) st') (ht:ts[st'.i]? = some t) (hok:st'.ok = true) (hend:t.k = 0) (hs:s.length + 2≤4096) :
  ∃ us y j u,lexOf (40 :: (s ++ [41])) = .ok us∧SameE x y∧Run us (body .seq) ⟨0,true⟩ (.e y) ⟨j,true⟩∧us[j]? = some u∧u.k = 0:=by
 have hE:=endsT_of (endOk_of hl)
 obtain ⟨L,hL,hS,hn⟩:=lexS_end hl
 have h1:lexS (40 :: (s ++ [41])) = some ((7,[40],0) :: (L ++ [(7,[41],0),(0,[],0)])):=by
  rw [lexS_open,lexS_close hS []];rfl
 obtain ⟨us,hu,hst⟩:=lexOf_S h1 (by simp;omega)
 have hE2:=endsT_of (endOk_of hu)
 have hi:st'.i = L.length:=by
  have h1:=(List.getElem?_eq_some_iff.1 ht).1
  have h2:st'.i + 1 = ts.length:=by
   rcases Nat.lt_or_ge (st'.i + 1) ts.length with h | h
   ·exact absurd hend (((endOk_of hl).2 _ _ ht).1.2 h)
   ·omega
  omega
 obtain ⟨i,ok⟩:=st'
 simp only at hi hok
 subst hi hok
 obtain ⟨a0,h0⟩:=tok_of hst (i:=0) rfl
 obtain ⟨a1,hC⟩:=tok_of hst (i:=L.length + (0 + 1)) (k:=7) (tx:=[41]) (n:=0) (by simp)
 obtain ⟨a2,hD⟩:=tok_of hst (i:=L.length + 0 + 2) (k:=0) (tx:=[]) (n:=0) (by simp)
 obtain ⟨y,hy,hry⟩:=atom_run hE hE2 hn h0 (fun j q a tx n' hj htj => tok_of hst (by
  have:=strip_of hL htj
  rw [List.getElem?_append_left hj] at this
  rw [Nat.zero_add,List.getElem?_cons_succ,List.getElem?_append_left hj]
  exact this)) hC hr
 exact ⟨us,y,_,_,hu,hy,up_atom ⟨_,_,h0⟩ hD (stop_end _ _ _) 0 (Nat.le_refl _) (by decide) hry,hD,rfl⟩
theorem pr_ended {s:List UInt8} {us:List Tok} {T:ExprT} {j:Nat} {u:Tok} (hl:lexOf s = .ok us) (hr:Run us (body .seq) ⟨0,true⟩ (.e T) ⟨j,true⟩) (hu:us[j]? = some u) (hk:u.k = 0) {x:ExprT} {er p:Int} (h:PR s x er p) :
  (er = 3∧x = .zero∧4096 < szE T) ∨ (er = 22∧x = .zero∧szE T≤4096∧deepOf 200 T ≠ none) ∨ (er = 0∧x = T∧szE T≤4096∧deepOf 200 T = none):=by
 have key:∀ {ts':List Tok} {x':ExprT} {st':St} {t':Tok},lexOf s = .ok ts'→Run ts' (body .seq) ⟨0,true⟩ (.e x') st'→ts'[st'.i]? = some t'→x' = T∧st' = ⟨j,true⟩∧t' = u:=by
  intro ts' x' st' t' hl' hr' ht'
  rw [hl] at hl'
  cases hl'
  obtain ⟨e1,e2⟩:=hr.det hr'
  cases e1
  cases e2
  rw [hu] at ht'
  cases ht'
  exact ⟨rfl,rfl,rfl⟩
 cases h with
 | lexErr h => rw [hl] at h;cases h
 | syn hl' hr' ht' hb => obtain ⟨rfl,rfl,rfl⟩:=key hl' hr' ht';exact (hb.elim (fun h => by cases h) (fun h => h hk)).elim
 | many hl' hr' ht' _ _ hm => obtain ⟨rfl,rfl,rfl⟩:=key hl' hr' ht';exact .inl ⟨rfl,rfl,hm⟩
 | deep hl' hr' ht' _ _ hm hd => obtain ⟨rfl,rfl,rfl⟩:=key hl' hr' ht';exact .inr (.inl ⟨rfl,rfl,hm,by rw [hd];simp⟩)
 | ok hl' hr' ht' _ _ hm hd => obtain ⟨rfl,rfl,rfl⟩:=key hl' hr' ht';exact .inr (.inr ⟨rfl,rfl,hm,hd⟩)
theorem brackets_pr {s:List UInt8} (hs:s.length + 2≤4096) {x y:ExprT} {p er2 p2:Int} (h:PR s x 0 p) (h2:PR (40 :: (s ++ [41])) y er2 p2):er2 = 0∧SameE x y:=by
 cases h with
 | lexErr h => rcases lexOf_err h with ⟨_,h,_⟩ | ⟨_,_,h,_⟩ <;> omega
 | ok hl hr ht hok hend hm hd =>
  obtain ⟨us,y',j,u,hu,hS,hr2,hju,hk⟩:=brackets_run hl hr ht hok hend hs
  rcases pr_ended hu hr2 hju hk h2 with ⟨_,_,h3⟩ | ⟨_,_,_,h3⟩ | ⟨e,rfl,_,_⟩
  ·rw [hS.sz] at h3;omega
  ·exact absurd (hS.deep 200 |>.1 hd) h3
  ·exact ⟨e,hS⟩
end Go.Proofs.YtpjkfeehgookkaaGreatDoor
namespace Go.Proofs.YtpjkfeehgookkaaGreatDoor
open Go.RowKit
attribute [local go_sem ↓] Go.wp_at_zero Go.wp_at_succ
set_option maxHeartbeats 4000000 in
set_option maxRecDepth 100000 in
theorem ParseBrackets_walk (a:ByteArray) (ha:a.size≤140737488355328) (w:World) (hE:EnvL w) :
  Calls Tryz.prog 6 #[.string a] w fun e w' => e = .returned (.bool true)∧Fr [] w w':=by
 have HE:=Lib.hid hE
 have cA:=fun w hE => Lib.hid (awake6_any w hE)
 have c1:=fun w hE => Lib.hid (Parse_any a (by omega) w hE)
 have hz:(⟨#[40]⟩ ++ a ++ ⟨#[41]⟩:ByteArray).data.toList = 40 :: (a.data.toList ++ [41]):=by simp [ByteArray.data_append]
 have hz2:(⟨#[40]⟩ ++ a ++ ⟨#[41]⟩:ByteArray).size = a.size + 2:=by rw [← size_list,hz];simp
 have c2:=fun w hE => Lib.hid (Parse_any (⟨#[40]⟩ ++ a ++ ⟨#[41]⟩) (by rw [hz2];omega) w hE)
 rw [hz] at c2
 have hza:(a.size:Int)≤140737488355328:=by omega
 clear hE hz hz2
 go_enter Tryz.func6,Tryz.ntmps6
 go_wp2_with fail
 refine (cA _ HE.out).out.mono ?_;rintro e w1 ⟨rfl,F⟩
 by_cases hbig:(4096:Int) < (a.size:Int) + 2
 ·go_wp2_with fail
  go_ret
  exact ⟨rfl,F⟩
 ·have HB:Hid (∀ {x y:ExprT} {p er2 p2:Int},PR a.data.toList x 0 p→PR (40 :: (a.data.toList ++ [41])) y er2 p2→er2 = 0∧SameE x y):=Lib.hid (fun h h2 => brackets_pr (by rw [size_list];omega) h h2)
  go_wp2_with fail
  refine (c1 _ (HE.out.fr F)).out.mono ?_
  rintro e x1 ⟨k1,a1,nm1,n1,s1,ls1,args1,arms1,A51,n51,c51,A61,n61,c61,A71,n71,c71,er1,at1,rfl,hx1,hpr1,fx1⟩
  have HPR1:=Lib.hid hpr1
  clear hpr1
  replace F:=F.trans fx1
  clear fx1
  go_wp2_with fail
  have q1:=heap_new x1 (.cells #[.int .i64 k1,.int .i64 a1,.string ⟨nm1.toArray⟩,.int .i64 n1,.string ⟨s1.toArray⟩,.slice A51 n51 c51,.slice A61 n61 c61,.slice A71 n71 c71] 27)
  have fb1:=(Fr.refl [] x1).alloc (.cells #[.int .i64 k1,.int .i64 a1,.string ⟨nm1.toArray⟩,.int .i64 n1,.string ⟨s1.toArray⟩,.slice A51 n51 c51,.slice A61 n61 c61,.slice A71 n71 c71] 27)
  have HX1:=Lib.hid (hx1.fr0 fb1)
  replace F:=F.trans fb1
  clear fb1 hx1
  generalize x1.alloc (.cells #[.int .i64 k1,.int .i64 a1,.string ⟨nm1.toArray⟩,.int .i64 n1,.string ⟨s1.toArray⟩,.slice A51 n51 c51,.slice A61 n61 c61,.slice A71 n71 c71] 27) = y1 at *
  generalize x1.heap.size = T1 at *
  go_wp2_with fail
  refine (c2 _ (HE.out.fr F)).out.mono ?_
  rintro e x2 ⟨k2,a2,nm2,n2,s2,ls2,args2,arms2,A52,n52,c52,A62,n62,c62,A72,n72,c72,er2,at2,rfl,hx2,hpr2,fx2⟩
  have HPR2:=Lib.hid hpr2
  clear hpr2
  replace F:=F.trans fx2
  replace HX1:=Lib.hid (HX1.out.fr fx2)
  replace q1:=fx2.keep q1 (fun x => by cases x)
  clear fx2
  by_cases h1:er1 = 0
  ·subst h1
   obtain ⟨rfl,hS⟩:=HB.out HPR1.out HPR2.out
   have HS:=Lib.hid hS
   clear hS
   have hT1:=lt_of_heap q1
   obtain ⟨⟨l10,l11,l12,l13,l14,l15,l16,l17⟩,_⟩:=cells8 q1
   go_wp2_with fail
   have q2:=heap_new x2 (.cells #[.int .i64 k2,.int .i64 a2,.string ⟨nm2.toArray⟩,.int .i64 n2,.string ⟨s2.toArray⟩,.slice A52 n52 c52,.slice A62 n62 c62,.slice A72 n72 c72] 27)
   have fb2:=(Fr.refl [] x2).alloc (.cells #[.int .i64 k2,.int .i64 a2,.string ⟨nm2.toArray⟩,.int .i64 n2,.string ⟨s2.toArray⟩,.slice A52 n52 c52,.slice A62 n62 c62,.slice A72 n72 c72] 27)
   have HX2:=Lib.hid (hx2.fr0 fb2)
   replace HX1:=Lib.hid (HX1.out.fr fb2)
   replace q1:=fb2.keep q1 (fun x => by cases x)
   replace F:=F.trans fb2
   clear fb2 hx2
   generalize x2.alloc (.cells #[.int .i64 k2,.int .i64 a2,.string ⟨nm2.toArray⟩,.int .i64 n2,.string ⟨s2.toArray⟩,.slice A52 n52 c52,.slice A62 n62 c62,.slice A72 n72 c72] 27) = y2 at *
   generalize x2.heap.size = T2 at *
   refine (Same_any HS.out HPR1.out.la A51 A52 n51 n52 c51 c52 A61 A62 n61 n62 c61 c62 A71 A72 n71 n72 c71 c72 y2 _ _ HX1.out HX2.out).mono ?_;rintro e w8 ⟨rfl,f8⟩;go_wp2_with fail
   go_ret
   exact ⟨rfl,F.trans f8⟩
  ·have h1b:(er1 != 0) = true:=bne_iff_ne.2 h1
   clear h1
   go_wp2_with fail
   go_ret
   exact ⟨rfl,F.alloc _⟩
end Go.Proofs.YtpjkfeehgookkaaGreatDoor
namespace Go.Proofs.YtpjkfeehgookkaaGreatDoor
open Go.ChangeShapes Go.WideShapes Go.ChangeAt Go.ChangeMaps Go.RowKit
section
theorem parseBrackets_reads (os:Os) {H:Type} (enc:TypeId × Value→H):∃ places,DataW.whole enc Tryz.prog ((doorW os).forCall (fun _ _ => 0) ⟨#[],#[.string ⟨#[]⟩],[]⟩).memory Tryz.f6.params.toList Rows.parseBracketsSpec.vars false (#[.string ⟨#[]⟩]:Array Value).toList 8 = some ([.lit (.string [])],[],places) :=
 ⟨[],by kernel_rfl⟩
set_option maxRecDepth 100000 in
theorem parseBrackets_contract (H:Type) (enc:TypeId × Value→H) (W:World) (base:Nat) (args:Array Value) (ds gs:List (DataW H)) (before:List MemPlace)
  (hval:∀ (j:Nat) t v,Tryz.f6.params[j]? = some t→args[j]? = some v→Value.okWide Tryz.prog W .any base t v)
  (hW:DataW.Whole enc Tryz.prog Tryz.f6.params.toList Rows.parseBracketsSpec.vars false W args.toList ds gs before) (hsz:(DataW.weightsEach Tryz.prog (Tryz.f6.params.toList ++ Rows.parseBracketsSpec.plain.varTypes Tryz.prog) (ds ++ gs)).all (·≤reachBytes) = true) (hL:laidMetH Tryz.prog Rows.parseBracketsRow.laid W) (hS:W.ShapedOpen Tryz.prog) :
  Calls Tryz.prog 6 args W fun e W' => ∃ v,e = .returned v∧Rows.parseBracketsSpec.post enc Tryz.prog Tryz.f6 false true false false W args v W':=by
 have hE:=env_of hL hS
 have hW':=hW
 obtain ⟨p,q,hA0,hV,rfl,hfz,hnd⟩:=hW
 have hA:DataW.TrodAll enc Tryz.prog W 0 (fun _ => true) true Tryz.f6.params.toList args.toList ds p:=hA0
 rw [Tryz.params6] at hA hval hsz
 obtain ⟨v0,vs0,d0,ds0,p0,q0,hargs,rfl,rfl,t0,r0⟩:=trodAll_cons hA
 obtain ⟨rfl,rfl,rfl⟩:=trodAll_nil r0
 obtain rfl:args = #[v0]:=by cases args;simp_all
 obtain ⟨rfl,rfl⟩:=trodVars_none hV
 obtain ⟨a,rfl,rfl,rfl,ha⟩:=open_string Tryz.underlying9 (hval 0 9 v0 rfl rfl) t0
 have za:a.size≤140737488351232:=sized_string hsz (j:=0) (t:=9) (bytes:=a.data.toList) rfl rfl
 clear hA0
 simp only [List.append_nil] at hW'
 refine (ParseBrackets_walk a (by omega) W hE).mono fun e W' ⟨he,hf⟩ => ?_
 subst he
 refine ⟨_,rfl,_,_,_,[],[],[],hW',?_,?_,rfl,hf.below0.frame _,fun h => by cases h⟩
 ·exact trodAll_cons_mk (shut_bool Tryz.underlying4 _) trodAll_mk0
 ·exact trodAll_cons_mk (shut_string Tryz.underlying9 ha) trodAll_mk0
set_option maxRecDepth 100000 in
theorem parseBrackets_lifted (os:Os) (started:os.Started) (H:Type) (enc:TypeId × Value→H) (F:Stop.Interp) :
  ReturnsInHanded {} Tryz.checked os 6 .any ((OpenSpec.ofChange Rows.parseBracketsSpec).preRow enc Tryz.prog Tryz.f6 Rows.parseBracketsRow.domain false Rows.parseBracketsRow.laid) (((OpenSpec.ofChange Rows.parseBracketsSpec).at F).post enc Tryz.prog Tryz.f6 false true false false):=by
 obtain ⟨places,hx⟩:=parseBrackets_reads os enc
 refine returnsInHanded_of_row (C:=Tryz.checked) (s:=OpenSpec.ofChange Rows.parseBracketsSpec) own started (by kernel_rfl) Tryz.func6
  (witness_row_atRef (enc:=enc) (C:=Tryz.checked) false (doorW os) #[.string ⟨#[]⟩] rfl (by kernel_rfl) (by kernel_rfl) (by kernel_rfl)
   (OpenSpec.preRow_of_cond 8 hx (by kernel_rfl) (fun k hk => by cases hk) (by kernel_rfl) (laid_met os _))) ?_
 intro W base args ds gs before hval hW _ _ hsz hL hS _
 exact parseBrackets_contract H enc W base args ds gs before hval hW hsz hL hS
theorem parseBrackets_said:Rows.ParseBracketsSaid :=
 OpenClaim.holds_of_cond 6 Tryz.f6 rfl rfl rfl rfl rfl rfl rfl ⟨rfl,rfl,rfl,rfl,rfl⟩ rfl rfl rfl rfl rfl (by kernel_rfl) Tryz.func6 (by kernel_rfl)
  (of_decide_eq_true (by kernel_rfl)) (by unfold Func.isWrapper;first | (rw [if_pos (by decide +kernel)];kernel_rfl) | (rw [if_neg (by decide +kernel)];exact ⟨rfl,rfl⟩))
  (fun os started H enc _ F => by rw [OpenClaim.pre_eq_preRow];exact parseBrackets_lifted os started H enc F)
theorem parseBrackets_plain (f:FuncId) (fn:Func) (hf:Tryz.pinned.checked.prog.funcNamed "marquetry/marquetrylaw06.ParseBrackets" = some f) (hfn:Tryz.pinned.checked.prog.funcs[f]? = some fn) :
  true = Tryz.pinned.checked.prog.looks []∧∀ (j:Nat) t,fn.params[j]? = some t→Tryz.pinned.checked.prog.wantsStandIn t = false:=by
 obtain rfl:f = 6:=Option.some.inj ((show Tryz.prog.funcNamed "marquetry/marquetrylaw06.ParseBrackets" = some 6 by kernel_rfl).symm.trans hf) |>.symm
 obtain rfl:fn = Tryz.f6:=(Option.some.inj (Tryz.func6.symm.trans hfn)).symm
 refine ⟨by kernel_rfl,fun j t ht => ?_⟩
 rw [Tryz.params6] at ht
 have hm:t ∈ [9]:=by simpa using Array.mem_of_getElem? ht
 have hall:([9].all fun u => !Tryz.prog.wantsStandIn u) = true:=by kernel_rfl
 exact (show Tryz.prog.wantsStandIn t = false by simpa using List.all_eq_true.1 hall t hm)
theorem parseBrackets_card:Rows.ParseBracketsCardSaid :=
 Claim7.holds_tied_plain_at .later [] _ _ _ _ parseBrackets_said (fun _ h => by cases h) (by kernel_rfl) (fun _ h => by cases h) parseBrackets_row_tie rfl ⟨rfl,rfl⟩ (by kernel_rfl) rfl parseBrackets_plain (by kernel_rfl)
end
end Go.Proofs.YtpjkfeehgookkaaGreatDoor
