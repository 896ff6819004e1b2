/- A part of the proof: Pp, Pr, Pw. -/
import Derived.Test.YtpjkfeehgookkaaGreatDoorGn1
namespace Go.Proofs.YtpjkfeehgookkaaGreatDoor
open Go.RowKit
set_option linter.all false
set_option maxHeartbeats 16000000
set_option maxRecDepth 100000
open List renaming length_cons→Lc',length_append→La',getElem?_eq_getElem→Lg',cons_append→Lp',length_nil→Ln'
open Nat renaming le_refl→Nr'
mutual
def Ba:Av→Nat→List (Int×Nat)
 | .mk _ a _ _ _ _ args,d=>(a,d)::B1 args (d+1)
def B1:List Av→Nat→List (Int×Nat)
 | [],_=>[]
 | x::l,d=>Ba x d++B1 l d
end
mutual
def A9:Ah→Nat→List (Int×Nat)
 | .mk _ a _ _ _ _ args arms,d=>(a,d)::(B0 args (d+1)++Bh arms (d+1))
def B0:List Ah→Nat→List (Int×Nat)
 | [],_=>[]
 | x::l,d=>A9 x d++B0 l d
def Bh:List (Av×Ah)→Nat→List (Int×Nat)
 | [],_=>[]
 | x::l,d=>Ii x d++Bh l d
def Ii:Av×Ah→Nat→List (Int×Nat)
 | (p,x),d=>Ba p d++A9 x d
end
mutual
def szP:Av→Nat
 | .mk _ _ _ _ _ _ args=>1+Ej args
def Ej:List Av→Nat
 | []=>0
 | x::l=>szP x+Ej l
end
mutual
def szE:Ah→Nat
 | .mk _ _ _ _ _ _ args arms=>1+(Cn args+Cp arms)
def Cn:List Ah→Nat
 | []=>0
 | x::l=>szE x+Cn l
def Cp:List (Av×Ah)→Nat
 | []=>0
 | x::l=>szA x+Cp l
def szA:Av×Ah→Nat
 | (p,x)=>szP p+szE x
end
theorem M2(l m:List Av):Ej (l++m)=Ej l+Ej m:=by
 induction l with
 | nil=>simp[Ej]
 | cons x l ih=>simp[Ej,ih];omega
theorem J4(l m:List Ah):Cn (l++m)=Cn l+Cn m:=by
 induction l with
 | nil=>simp[Cn]
 | cons x l ih=>simp[Cn,ih];omega
theorem Mz(l m:List (Av×Ah)):Cp (l++m)=Cp l+Cp m:=by
 induction l with
 | nil=>simp[Cp]
 | cons x l ih=>simp[Cp,ih];omega
theorem M8{l:List Av}{i:Nat}{x:Av}(h:l[i]?=some x):szP x≤Ej l:=by
 induction l generalizing i with
 | nil=>simp at h
 | cons y l ih =>
  cases i with
  | zero=>simp at h;subst h;simp[Ej]
  | succ i=>simp at h;have:=ih h;simp[Ej];omega
theorem M1{l:List Ah}{i:Nat}{x:Ah}(h:l[i]?=some x):szE x≤Cn l:=by
 induction l generalizing i with
 | nil=>simp at h
 | cons y l ih =>
  cases i with
  | zero=>simp at h;subst h;simp[Cn]
  | succ i=>simp at h;have:=ih h;simp[Cn];omega
theorem M0{l:List (Av×Ah)}{i:Nat}{p:Av}{x:Ah}(h:l[i]?=some (p,x)):szP p+szE x≤Cp l:=by
 induction l generalizing i with
 | nil=>simp at h
 | cons y l ih =>
  cases i with
  | zero=>simp at h;subst h;simp[Cp,szA]
  | succ i=>simp at h;have:=ih h;simp[Cp];omega
theorem Pb(l:List Av):l.length≤Ej l:=by
 induction l with
 | nil=>simp
 | cons x l ih=>cases x;simp[Ej,szP];omega
theorem Pa(l:List Ah):l.length≤Cn l:=by
 induction l with
 | nil=>simp
 | cons x l ih=>cases x;simp[Cn,szE];omega
theorem O9(l:List (Av×Ah)):l.length≤Cp l:=by
 induction l with
 | nil=>simp
 | cons x l ih=>obtain⟨p,x⟩:=x;cases x;cases p;simp[Cp,szA,szE,szP];omega
theorem Ew{l:List Av}{i:Nat}{x:Av}(h:l[i]?=some x)(d:Nat):B1 (l.drop i) d=Ba x d++B1 (l.drop (i+1)) d:=by
 obtain⟨hi,he⟩:=List.getElem?_eq_some_iff.1 h;rw[List.drop_eq_getElem_cons hi,he];simp[B1]
theorem Ev{l:List Ah}{i:Nat}{x:Ah}(h:l[i]?=some x)(d:Nat):B0 (l.drop i) d=A9 x d++B0 (l.drop (i+1)) d:=by
 obtain⟨hi,he⟩:=List.getElem?_eq_some_iff.1 h;rw[List.drop_eq_getElem_cons hi,he];simp[B0]
theorem Eu{l:List (Av×Ah)}{i:Nat}{p:Av}{x:Ah}(h:l[i]?=some (p,x))(d:Nat):Bh (l.drop i) d=Ba p d++(A9 x d++Bh (l.drop (i+1)) d):=by
 obtain⟨hi,he⟩:=List.getElem?_eq_some_iff.1 h;rw[List.drop_eq_getElem_cons hi,he];simp[Bh,Ii]
mutual
theorem Jq:∀ (x:Av)(d:Nat),(Ba x d).length=szP x
 | .mk _ _ _ _ _ _ args,d=>by simp[Ba,szP,Ir args (d+1)];omega
theorem Ir:∀ (l:List Av)(d:Nat),(B1 l d).length=Ej l
 | [],d=>by simp[B1,Ej]
 | x::l,d=>by simp[B1,Ej,Jq x d,Ir l d]
end
mutual
theorem Fc:∀ (x:Ah)(d:Nat),(A9 x d).length=szE x
 | .mk _ _ _ _ _ _ args arms,d=>by simp[A9,szE,Iq args (d+1),Ip arms (d+1)];omega
theorem Iq:∀ (l:List Ah)(d:Nat),(B0 l d).length=Cn l
 | [],d=>by simp[B0,Cn]
 | x::l,d=>by simp[B0,Cn,Fc x d,Iq l d]
theorem Ip:∀ (l:List (Av×Ah))(d:Nat),(Bh l d).length=Cp l
 | [],d=>by simp[Bh,Cp]
 | x::l,d=>by simp[Bh,Cp,N5 x d,Ip l d]
theorem N5:∀ (x:Av×Ah)(d:Nat),(Ii x d).length=szA x
 | (p,x),d=>by simp[Ii,szA,Jq p d,Fc x d]
end
theorem Gw(k a:Int)(nm:LB)(n:Int)(s:LB)(ls:List LB)(args:List Av)(d:Nat):Ba (.mk k a nm n s ls args) d=(a,d)::B1 args (d+1):=by simp[Ba]
theorem Gv(k a:Int)(nm:LB)(n:Int)(s:LB)(ls:List LB)(args:List Ah)(arms:List (Av×Ah))(d:Nat):A9 (.mk k a nm n s ls args arms) d=(a,d)::(B0 args (d+1)++Bh arms (d+1)):=by simp[A9]
def goL{σ:Type}(f:σ→Int×Nat→σ×Bool):σ→List (Int×Nat)→σ×Bool
 | s,[]=>(s,true)
 | s,x::l=>if (f s x).2=true then goL f (f s x).1 l else ((f s x).1,false)
theorem C1{σ:Type}(f:σ→Int×Nat→σ×Bool)(l m:List (Int×Nat)):∀ s,goL f s (l++m)=if (goL f s l).2=true then goL f (goL f s l).1 m else ((goL f s l).1,false):=by
 induction l with
 | nil=>intro s;simp[goL]
 | cons x l ih =>
  intro s;rw[Lp',goL,goL];split
  ·exact ih _
  ·simp
def Bx(most:Int)(s:Int)(_:Int×Nat):Int×Bool:=(s+1,decide (s+1≤most))
def A2(most:Int)(s:Int×Bool)(p:Int×Nat):(Int×Bool)×Bool:=if (most<(p.2:Int))then ((p.1,true),false)else (s,!s.2)
theorem Rj(most:Int)(l:List (Int×Nat)):∀ s,s≤most→goL (Bx most) s l=(min (s+l.length) (most+1),decide (s+l.length≤most)):=by
 induction l with
 | nil=>intro s h;simp[goL];omega
 | cons x l ih =>
  intro s h;rw[goL];show(if decide (s+1≤most)=true then goL (Bx most) (s+1) l else (s+1,false))=_;by_cases h1:s+1≤most
  ·rw[if_pos (by simpa using h1),ih _ h1];simp only[Lc',Prod.mk.injEq,decide_eq_decide];constructor <;> omega
  ·rw[if_neg (by simpa using h1)];simp only[Lc',Prod.mk.injEq];refine⟨by omega,?_⟩
   symm
   rw[decide_eq_false_iff_not];omega
theorem Oy(most:Int)(l:List (Int×Nat)):∀ a,goL (A2 most) (a,false) l=match l.find? (fun p=>decide (most<(p.2:Int)))with
  | some p=>((p.1,true),false)
  | none=>((a,false),true):=by
 induction l with
 | nil=>intro a;simp[goL]
 | cons x l ih =>
  intro a;rw[goL,List.find?_cons];unfold A2
  by_cases h:most<(x.2:Int)
  ·simp[h]
  ·simp only[h,if_false,decide_false];exact ih a
theorem Kw{most σ:Int}{l:List (Int×Nat)}(h:σ≤most)(h2:(goL (Bx most) σ l).2=true):(goL (Bx most) σ l).1≤most:=by
 rw[Rj most l σ h] at h2 ⊢;simp at h2 ⊢;omega
theorem L7{most:Int}{σ:Int×Bool}{p:Int×Nat}(h:σ.2=false)(h2:(A2 most σ p).2=true):(A2 most σ p).1.2=false:=by
 unfold A2 at h2 ⊢;split at h2
 ·cases h2
 ·rename_i hn
  rw[if_neg hn];exact h
theorem I4{most:Int}{σ:Int×Bool}{l:List (Int×Nat)}(h:σ.2=false)(h2:(goL (A2 most) σ l).2=true):(goL (A2 most) σ l).1.2=false:=by
 obtain⟨a,f⟩:=σ;simp only at h;subst h;rw[Oy] at h2 ⊢;split at h2
 ·cases h2
 ·rfl
def Bj:NT→Nat
 | .armsL _ _ x acc=>szE x+Cp acc+2
 | .sumL a=>szE a+1
 | .prodL a=>szE a+1
 | .opL _ _ _ acc=>Cn acc+2
 | .appL a=>szE a+1
 | .postL a=>szE a+1
 | .braces _=>2
 | .recL _ _ args=>Cn args+2
 | _=>0
def Ed:PNT→Nat
 | .marked (.mk _ _ _ _ _ _ args)=>Ej args
 | .recL _ _ args=>Ej args+2
 | _=>0
def Wt:Nat→Cmd→Prop
 | b,.retE x=>szE x+1≤b
 | b,.retP x=>szP x+1≤b
 | b,.look k=>∀ t,Wt b (k t true)
 | b,.ahead k=>∀ n,Wt b (k n)
 | b,.adv k=>Wt (b+2) k
 | _,.fail _=>True
 | b,.callE nt k=>∀ x m,szE x+1≤Bj nt+2 * m→Wt (b+2 * m) (k x)
 | b,.callP nt k=>∀ x m,szP x+1≤Ed nt+2 * m→Wt (b+2 * m) (k x)
theorem Cf{p:Prop} [Decidable p] {b:Nat}{c d:Cmd}(h1:p→Wt b c)(h2:¬ p→Wt b d):Wt b (if p then c else d):=by
 split
 ·exact h1 (by assumption)
 ·exact h2 (by assumption)
theorem Pd{s:LB}{b:Nat}{k:Bool→Cmd}(h1:Wt (b+2) (k true))(h2:Wt b (k false)):Wt b (C0 s k):=fun _=>Cf (fun _=>h1) (fun _=>h2)
theorem Cm{s:LB}{b:Nat}{c d:Cmd}(h1:Wt (b+2) c)(h2:Wt b d):Wt b (C0 s fun b=>if b=true then c else d):=Pd h1 h2
theorem wt_adv{b:Nat}{c:Cmd}(h:Wt (b+2) c):Wt b (.adv c):=h
theorem wt_fail{b:Nat}{c:Cmd}:Wt b (.fail c):=trivial
theorem wt_isI{l:List LB}{b:Nat}{c d:Cmd}(h1:Wt b c)(h2:Wt b d):Wt b (isC l fun b=>if b=true then c else d):=fun t=>by
 show Wt b (if _ then _ else _);exact Cf (fun _=>h1) (fun _=>h2)
theorem Ce{s:LB}{b:Nat}{c:Cmd}(h:Wt (b+2) c):Wt b (Bk s c):=fun _=>Cf (fun _=>h) (fun _=>trivial)
theorem F0{b:Nat}{k:LB→Cmd}(h:∀ s,Wt (b+2) (k s)):Wt b (Er k):=fun _=>Cf (fun _=>h _) (fun _=>trivial)
theorem A0{x:Ah}{b:Nat}(h:szE x+1≤b):Wt b (.retE x):=h
theorem Cu{x:Av}{b:Nat}(h:szP x+1≤b):Wt b (.retP x):=h
theorem wtP(nt:PNT):Wt (Ed nt) (Bp nt):=by
 cases nt with
 | pat =>
  refine fun t=>Cf (fun _=>fun x m h=>Cu ?_) (fun _=>fun x m h=>Cu ?_)<;> simp only[Ed,szP,Ej] at * <;> omega
 | patom =>
  refine fun t=>Cf (fun h=>by cases h) (fun _=>Cf (fun _=>Cu ?_) (fun _=>Cf (fun _=>Cu ?_) (fun _=>Cf (fun _=>Cu ?_) (fun _=>Cf (fun _=>Cu ?_) (fun _=>fun x m h=>Cu ?_)))))
  ·split <;> simp[szP,Ej,Ed]
  all_goals simp only[Ed,szP,Ej] at * <;> omega
 | marked x =>
  obtain⟨k,a,nm,n,s,ls,args⟩:=x;unfold Bp;refine Cm ?_ (Cm ?_ (Cm ?_ (Cm ?_ (Cm ?_ wt_fail))))
  ·exact fun t=>Cf (fun _=>Cf (fun _=>Cu (by simp only[Ed,szP];omega)) (fun _=>Cu (by simp only[Ed,szP];omega))) (fun _=>trivial)
  ·exact Cu (by simp only[Ed,szP];omega)
  ·exact Cu (by simp only[Ed,szP];omega)
  ·exact Cm (Cu (by simp only[Ed,szP];omega)) (fun x m h=>Ce (Cu (by simp only[Ed] at *;omega)))
  ·refine Cm (Cu (by simp only[Ed,szP];omega)) (fun t=>Cf (fun _=>fun x m h=>Cu (by simp only[Ed] at *;omega)) (fun h=>absurd rfl h))
 | recL a ls args =>
  unfold Bp;refine F0 fun s=>Ce fun x m h=>Cm ?_ ?_
  ·exact fun y m2 h2=>Cu (by simp only[Ed,M2,Ej] at *;omega)
  ·exact Ce (Cu (by simp only[Ed,M2,Ej,szP] at *;omega))
theorem wtE(nt:NT):Wt (Bj nt) (body nt):=by
 cases nt with
 | seq=>exact fun x m h t=>Cm (fun y m2 h2=>A0 (by simp only[Bj,Dg,szE,Cn,Cp] at *;omega)) (A0 (by simp only[Bj] at *;omega))
 | item =>
  refine fun t=>Cm ?_ (wt_isI (fun x m h=>A0 (by simp only[Bj] at *;omega)) (Cm (fun x m h=>A0 (by simp only[Bj] at *;omega)) (Cm (fun x m h=>A0 (by simp only[Bj] at *;omega)) (Cm ?_ (Cm ?_ ?_)))))
  ·refine Pd ?_ ?_
   ·exact F0 fun s=>Ce fun x m h=>Ce fun y m2 h2=>A0 (by simp only[if_true,Bj,szE,Cn,Cp] at *;omega)
   ·exact F0 fun s=>Ce fun x m h=>Ce fun y m2 h2=>A0 (by
     have h:szE x+1≤Bj .seq+2 * m:=h
     simp only[Bj,szE,Cn,Cp] at *;omega)
  ·exact fun x m h=>Ce fun y m2 h2=>Ce fun z m3 h3=>A0 (by simp only[Bj,Dg,szE,Cn,Cp] at *;omega)
  ·exact fun x m h=>A0 (by simp only[Bj,Dg,szE,Cn,Cp] at *;omega)
  ·exact fun x m h t=>Cm (fun y m2 h2=>A0 (by simp only[Bj,opE,szE,Cn,Cp] at *;omega)) (A0 (by simp only[Bj] at *;omega))
 | fn=>exact fun t=>Ce (F0 fun s=>Ce fun x m h=>A0 (by simp only[Bj,szE,Cn,Cp] at *;omega))
 | arms k a=>exact fun x m h=>Ce fun t=>Cf (fun _=>fun y m2 h2=>A0 (by simp only[Bj,Cp] at *;omega)) (fun h=>absurd rfl h)
 | armsL k a x acc=>exact fun p m h=>Ce fun y m2 h2=>Cm (fun z m3 h3=>A0 (by simp only[Bj,Ed,Mz,Cp,szA] at *;omega)) (Ce (A0 (by simp only[Bj,Ed,Mz,Cp,szA,szE,Cn] at *;omega)))
 | or=>exact fun x m h t=>Cm (fun y m2 h2=>A0 (by simp only[Bj,Dg,szE,Cn,Cp] at *;omega)) (A0 (by simp only[Bj] at *;omega))
 | and=>exact fun x m h t=>Cm (fun y m2 h2=>A0 (by simp only[Bj,Dg,szE,Cn,Cp] at *;omega)) (A0 (by simp only[Bj] at *;omega))
 | cmp=>exact fun x m h t=>Cf (fun _=>fun y m2 h2=>A0 (by simp only[Bj,opE,szE,Cn,Cp] at *;omega)) (fun _=>A0 (by simp only[Bj] at *;omega))
 | sum=>exact fun x m h y m2 h2=>A0 (by simp only[Bj] at *;omega)
 | sumL a=>exact fun t=>Cf (fun _=>fun x m h y m2 h2=>A0 (by simp only[Bj,opE,szE,Cn,Cp] at *;omega)) (fun _=>A0 (by simp only[Bj] at *;omega))
 | prod=>exact fun x m h y m2 h2=>A0 (by simp only[Bj] at *;omega)
 | prodL a=>exact fun t=>Cf (fun _=>fun x m h y m2 h2=>A0 (by simp only[Bj,opE,szE,Cn,Cp] at *;omega)) (fun _=>A0 (by simp only[Bj] at *;omega))
 | unary=>exact fun t=>Cm (fun x m h=>A0 (by simp only[Bj,opE,szE,Cn,Cp] at *;omega)) (Cm (fun x m h=>A0 (by simp only[Bj,opE,szE,Cn,Cp] at *;omega)) (fun x m h=>A0 (by simp only[Bj] at *;omega)))
 | app =>
  refine fun t=>Cf (fun _=>fun x m h=>A0 ?_) (fun _=>Cf (fun _=>fun x m h=>A0 ?_) (fun _=>fun x m h y m2 h2=>A0 ?_))<;> simp only[Bj,szE,Cn,Cp] at * <;> omega
 | opL n a m acc =>
  cases m with
  | zero=>exact A0 (by simp only[Bj,opE,szE,Cp];omega)
  | succ m=>exact fun x m1 h y m2 h2=>A0 (by simp only[Bj,J4,Cn] at *;omega)
 | appL a=>exact fun t=>Cf (fun _=>fun x m h y m2 h2=>A0 (by simp only[Bj,Dg,szE,Cn,Cp] at *;omega)) (fun _=>A0 (by simp only[Bj] at *;omega))
 | post=>exact fun t=>Cm (fun x m h=>A0 (by simp only[Bj,opE,szE,Cn,Cp] at *;omega)) (fun x m h y m2 h2=>A0 (by simp only[Bj] at *;omega))
 | postL a=>exact fun t=>Cf (fun _=>wt_adv (F0 fun s=>fun y m2 h2=>A0 (by simp only[Bj,szE,Cn,Cp] at *;omega))) (fun _=>A0 (by simp only[Bj] at *;omega))
 | atom =>
  intro t;refine Cf (fun _=>?_) (fun _=>trivial);show Wt (0+2) _
  repeat refine Cf (fun _=>(by first|exact A0 (by simp only[szE,Cn,Cp];omega)| exact fun x m h=>A0 (by simp only[Bj] at *;omega))) (fun _=>?_)
  exact Cm (A0 (by simp only[szE,Cn,Cp];omega)) (fun x m h=>Ce (A0 (by simp only[Bj] at *;omega)))
 | braces a =>
  unfold body
  refine Cm (A0 (by simp only[Bj,szE,Cn,Cp];omega)) (fun n t=>Cf (fun _=>Cf (fun _=>fun x m h=>A0 (by simp only[Bj,Cn] at *;omega)) (fun h=>absurd rfl h)) (fun _=>fun x m h=>Ce (F0 fun s=>Ce fun y m2 h2=>Ce (A0 (by simp only[Bj,szE,Cn,Cp] at *;omega)))))
 | recL a ls args =>
  unfold body;refine F0 fun s=>Ce fun x m h=>Cm ?_ ?_
  ·exact fun y m2 h2=>A0 (by simp only[Bj,J4,Cn] at *;omega)
  ·exact Ce (A0 (by simp only[Bj,J4,Cn,szE,Cp] at *;omega))
def szR:Rs→Nat
 | .e x=>szE x
 | .p x=>szP x
theorem Run.cost{ts:List Tok}{c:Cmd}{st:St}{r:Rs}{st':St}(h:Run ts c st r st'):∀ {b:Nat},Wt b c→st'.ok=true→szR r+1≤b+2 *(st'.i-st.i):=by
 induction h with
 | retE=>intro b hw _;simp only[Wt] at hw;simp only[szR];omega
 | retP=>intro b hw _;simp only[Wt] at hw;simp only[szR];omega
 | look h hk ih=>intro b hw hok;have:=hk.grows.2 hok;exact ih (by rw[this];exact hw _) hok
 | ahead h hk ih=>intro b hw hok;exact ih (hw _) hok
 | adv hk ih =>
  intro b hw hok;have h1:=ih (b:=b+2) hw hok;have h2:=hk.grows.1;simp only at h1 h2
  omega
 | fail hk ih=>intro b hw hok;have:=hk.grows.2 hok;cases this
 | @callE nt k st x st1 r st' h hk ih1 ih2 =>
  intro b hw hok;have h1:=ih1 (wtE nt) (hk.grows.2 hok);have h2:=ih2 (b:=b+2 *(st1.i-st.i)) (hw x _ h1) hok;have h3:=h.grows.1;have h4:=hk.grows.1
  omega
 | @callP nt k st x st1 r st' h hk ih1 ih2 =>
  intro b hw hok;have h1:=ih1 (wtP nt) (hk.grows.2 hok);have h2:=ih2 (b:=b+2 *(st1.i-st.i)) (hw x _ h1) hok;have h3:=h.grows.1;have h4:=hk.grows.1;omega
def SL{α:Type}(R:α→α→Prop)(l l':List α):Prop:=l.length=l'.length∧∀ (i:Nat)(x y:α),l[i]?=some x→l'[i]?=some y→R x y
theorem SL.nil_{α:Type}(R:α→α→Prop):SL R [] []:=⟨rfl,fun i x y h=>by simp at h⟩
theorem SL.app{α:Type}{R:α→α→Prop}{l l':List α}{x y:α}(h:SL R l l')(hx:R x y):SL R (l++[x]) (l'++[y]):=by
 refine⟨by simp[h.1],fun i u v hu hv=>?_⟩;rcases Nat.lt_trichotomy i l.length with hlt|heq|hgt
 ·rw[List.getElem?_append_left hlt] at hu;rw[List.getElem?_append_left (by rw[← h.1];exact hlt)] at hv;exact h.2 i u v hu hv
 ·rw[heq,List.getElem?_append_right (Nr' _),Nat.sub_self] at hu;rw[heq,h.1,List.getElem?_append_right (Nr' _),Nat.sub_self] at hv;simp at hu hv;subst hu;subst hv;exact hx
 ·have:(l++[x])[i]?=none:=List.getElem?_eq_none (by simp;omega);rw[this] at hu;cases hu
theorem SL.one{α:Type}{R:α→α→Prop}{x y:α}(hx:R x y):SL R [x] [y]:=SL.app (SL.nil_ R) hx
theorem SL.two{α:Type}{R:α→α→Prop}{x y x2 y2:α}(hx:R x y)(h2:R x2 y2):SL R [x,x2] [y,y2]:=SL.app (SL.one hx) h2
theorem SL.three{α:Type}{R:α→α→Prop}{x y x2 y2 x3 y3:α}(hx:R x y)(h2:R x2 y2)(h3:R x3 y3):SL R [x,x2,x3] [y,y2,y3]:=SL.app (SL.two hx h2) h3
inductive Db:Av→Av→Prop
 | mk {k a a' nm n s ls args args'} (hl:args.length=args'.length) (h:∀ (i:Nat) (x y:Av),args[i]?=some x→args'[i]?=some y→Db x y):Db (.mk k a nm n s ls args) (.mk k a' nm n s ls args')
inductive A8:Ah→Ah→Prop
 | mk {k a a' nm n s ls args args' arms arms'} (hl:args.length=args'.length) (h:∀ (i:Nat) (x y:Ah),args[i]?=some x→args'[i]?=some y→A8 x y)
   (hl2:arms.length=arms'.length) (hp:∀ (i:Nat) (p p':Av) (x y:Ah),arms[i]?=some (p,x)→arms'[i]?=some (p',y)→Db p p')
   (hx:∀ (i:Nat) (p p':Av) (x y:Ah),arms[i]?=some (p,x)→arms'[i]?=some (p',y)→A8 x y):A8 (.mk k a nm n s ls args arms) (.mk k a' nm n s ls args' arms')
def Lv(p q:Av×Ah):Prop:=Db p.1 q.1∧A8 p.2 q.2
theorem sP{k a a':Int}{nm:LB}{n:Int}{s:LB}{ls:List LB}{args args':List Av}(h:SL Db args args'):Db (.mk k a nm n s ls args) (.mk k a' nm n s ls args'):=.mk h.1 h.2
theorem sE{k a a':Int}{nm:LB}{n:Int}{s:LB}{ls:List LB}{args args':List Ah}{arms arms':List (Av×Ah)}(h:SL A8 args args')(hm:SL Lv arms arms'):A8 (.mk k a nm n s ls args arms) (.mk k a' nm n s ls args' arms'):=
 .mk h.1 h.2 hm.1 (fun i _p _p' _x _y h1 h2=>(hm.2 i _ _ h1 h2).1) (fun i _p _p' _x _y h1 h2=>(hm.2 i _ _ h1 h2).2)
theorem sE0{k a a':Int}{nm:LB}{n:Int}{s:LB}{ls:List LB}{args args':List Ah}(h:SL A8 args args'):A8 (.mk k a nm n s ls args []) (.mk k a' nm n s ls args' []):=sE h (SL.nil_ _)
theorem sEl{k a a':Int}{nm:LB}{n:Int}{s:LB}:A8 (.mk k a nm n s [] [] []) (.mk k a' nm n s [] [] []):=sE0 (SL.nil_ _)
theorem sPl{k a a':Int}{nm:LB}{n:Int}{s:LB}:Db (.mk k a nm n s [] []) (.mk k a' nm n s [] []):=sP (SL.nil_ _)
inductive PNR:PNT→PNT→Prop
 | pat:PNR .pat .pat
 | patom:PNR .patom .patom
 | marked {x y} (h:Db x y):PNR (.marked x) (.marked y)
 | recL {a a' ls args args'} (h:SL Db args args'):PNR (.recL a ls args) (.recL a' ls args')
inductive NR:NT→NT→Prop
 | seq:NR .seq .seq
 | item:NR .item .item
 | fn:NR .fn .fn
 | arms {k a a'}:NR (.arms k a) (.arms k a')
 | armsL {k a a' x y acc acc'} (hx:A8 x y) (h:SL Lv acc acc'):NR (.armsL k a x acc) (.armsL k a' y acc')
 | or:NR .or .or
 | and:NR .and .and
 | cmp:NR .cmp .cmp
 | sum:NR .sum .sum
 | sumL {x y} (h:A8 x y):NR (.sumL x) (.sumL y)
 | prod:NR .prod .prod
 | prodL {x y} (h:A8 x y):NR (.prodL x) (.prodL y)
 | unary:NR .unary .unary
 | app:NR .app .app
 | opL {n a a' m acc acc'} (h:SL A8 acc acc'):NR (.opL n a m acc) (.opL n a' m acc')
 | appL {x y} (h:A8 x y):NR (.appL x) (.appL y)
 | post:NR .post .post
 | postL {x y} (h:A8 x y):NR (.postL x) (.postL y)
 | atom:NR .atom .atom
 | braces {a a'}:NR (.braces a) (.braces a')
 | recL {a a' ls args args'} (h:SL A8 args args'):NR (.recL a ls args) (.recL a' ls args')
def B4(t:Tok)(c:Cmd):Prop:=∀ (ts:List Tok)(i:Nat)(ok:Bool)(r:Rs)(st':St),ts[i]?=some t→Run ts c ⟨i,ok⟩ r st'→st'.ok=false
inductive CR:Cmd→Cmd→Prop
 | retE {x y} (h:A8 x y):CR (.retE x) (.retE y)
 | retP {x y} (h:Db x y):CR (.retP x) (.retP y)
 | look {k k'} (h:∀ (q:Int) (a a':Nat) (tx:LB) (n:Int) (ok:Bool),CR (k ⟨q,a,tx,n⟩ ok) (k' ⟨q,a',tx,n⟩ ok))
   (h2:∀ (a a':Nat) (tx:LB) (n n':Int) (ok:Bool),¬ B4 ⟨0,a,tx,n⟩ (k ⟨0,a,tx,n⟩ ok)→CR (k ⟨0,a,tx,n⟩ ok) (k' ⟨7,a',[41],n'⟩ ok)):CR (.look k) (.look k')
 | ahead {a a'} (h:∀ n n',(n.k==7&&n.text==[61])=(n'.k==7&&n'.text==[61])→CR (.look (brK a n)) (.look (brK a' n'))):CR (.ahead fun n => .look (brK a n)) (.ahead fun n => .look (brK a' n))
 | adv {c c'} (h:CR c c'):CR (.adv c) (.adv c')
 | fail {c c'} (h:CR c c'):CR (.fail c) (.fail c')
 | callE {nt nt' k k'} (hn:NR nt nt') (h:∀ x y,A8 x y→CR (k x) (k' y)):CR (.callE nt k) (.callE nt' k')
 | callP {nt nt' k k'} (hn:PNR nt nt') (h:∀ x y,Db x y→CR (k x) (k' y)):CR (.callP nt k) (.callP nt' k')
theorem CR.ite{p:Prop} [Decidable p] {c d c' d':Cmd}(h1:p→CR c c')(h2:¬ p→CR d d'):CR (if p then c else d) (if p then c' else d'):=by
 split
 ·exact h1 (by assumption)
 ·exact h2 (by assumption)
theorem Ck(a:Nat)(tx:LB)(n:Int)(ok:Bool)(l:List LB):isB ⟨0,a,tx,n⟩ ok l=false:=by cases ok <;> rfl
theorem Du(a:Nat)(n:Int)(ok:Bool)(l:List LB)(hl:l.contains [41]=false):isB ⟨7,a,[41],n⟩ ok l=false:=by
 show(ok&&true&&l.contains [41])=false;rw[hl];cases ok <;> rfl
theorem Pz(a:Nat)(tx:LB)(n:Int)(ok:Bool):Hs ⟨0,a,tx,n⟩ ok=false:=by cases ok <;> rfl
theorem CR.may{s:LB}{k k':Bool→Cmd}(hs:[s].contains [41]=false)(h:∀ b,CR (k b) (k' b)):CR (C0 s k) (C0 s k'):=by
 refine .look (fun q a a' tx n ok=>?_) (fun a a' tx n n' ok _=>?_)
 ·exact CR.ite (fun _ => .adv (h true)) (fun _=>h false)
 ·rw[Ck,Du _ _ _ _ hs,if_neg (by decide),if_neg (by decide)];exact h false
theorem B4.fail{t:Tok}{c:Cmd}:B4 t (.fail c):=by
 intro ts i ok r st' ht h
 cases h with
 | fail hk =>
  have:=hk.grows.2
  cases hok:st'.ok with
  | false=>rfl
  | true=>have:=this hok;cases this
theorem B4.callE{t:Tok}{nt:NT}{k:Ah→Cmd}(h:B4 t (body nt)):B4 t (.callE nt k):=by
 intro ts i ok r st' ht hr
 cases hr with
 | callE h1 hk =>
  have h2:=h _ _ _ _ _ ht h1
  cases hok:st'.ok with
  | false=>rfl
  | true=>have:=hk.grows.2 hok;rw[h2] at this;cases this
theorem B4.callP{t:Tok}{nt:PNT}{k:Av→Cmd}(h:B4 t (Bp nt)):B4 t (.callP nt k):=by
 intro ts i ok r st' ht hr
 cases hr with
 | callP h1 hk =>
  have h2:=h _ _ _ _ _ ht h1
  cases hok:st'.ok with
  | false=>rfl
  | true=>have:=hk.grows.2 hok;rw[h2] at this;cases this
theorem B4.look{t:Tok}{k:Tok→Bool→Cmd}(h:∀ ok,B4 t (k t ok)):B4 t (.look k):=by
 intro ts i ok r st' ht hr
 cases hr with
 | look h1 hk=>rw[ht] at h1;cases h1;exact h _ _ _ _ _ _ ht hk
section
variable {a:Nat} {tx:LB} {n:Int}
theorem B4.may{s:LB}{k:Bool→Cmd}(h:B4 ⟨0,a,tx,n⟩ (k false)):B4 ⟨0,a,tx,n⟩ (C0 s k):=.look fun ok=>by
 rw[Ck,if_neg (by decide)];exact h
theorem B4.is{l:List LB}{k:Bool→Cmd}(h:B4 ⟨0,a,tx,n⟩ (k false)):B4 ⟨0,a,tx,n⟩ (isC l k):=.look fun ok=>by
 rw[Ck];exact h
theorem Pm:B4 ⟨0,a,tx,n⟩ (body .atom):=.look fun ok=>by
 have:Bu ⟨0,a,tx,n⟩ ok=false:=by cases ok <;> rfl
 rw[this,if_neg (by simp)];exact .fail
theorem Po:B4 ⟨0,a,tx,n⟩ (body .post):=.look fun ok => .may (by rw[if_neg (by decide)];exact .callE Pm)
theorem Rl:B4 ⟨0,a,tx,n⟩ (body .app):=.look fun ok=>by
 rw[if_neg (by simp),if_neg (by simp)];exact .callE Po
theorem Nu:B4 ⟨0,a,tx,n⟩ (body .unary):=.look fun ok => .may (by rw[if_neg (by decide)];exact .may (by rw[if_neg (by decide)];exact .callE Rl))
theorem Pp:B4 ⟨0,a,tx,n⟩ (body .prod):=.callE Nu
theorem Ro:B4 ⟨0,a,tx,n⟩ (body .sum):=.callE Pp
theorem Rm:B4 ⟨0,a,tx,n⟩ (body .cmp):=.callE Ro
theorem Rk:B4 ⟨0,a,tx,n⟩ (body .and):=.callE Rm
theorem dead_or:B4 ⟨0,a,tx,n⟩ (body .or):=.callE Rk
theorem Pn:B4 ⟨0,a,tx,n⟩ (body .item):=by
 refine .look fun ok => .may ?_
 rw[if_neg (by decide)];refine .is ?_;rw[if_neg (by decide)];refine .may ?_;rw[if_neg (by decide)];refine .may ?_;rw[if_neg (by decide)];refine .may ?_;rw[if_neg (by decide)];refine .may ?_;rw[if_neg (by decide)];exact .callE dead_or
theorem L6:B4 ⟨0,a,tx,n⟩ (body .seq):=.callE Pn
theorem L5(x:Av):B4 ⟨0,a,tx,n⟩ (Bp (.marked x)):=by
 obtain⟨k,a',nm,n',s,ls,args⟩:=x;unfold Bp;refine .may ?_;rw[if_neg (by decide)];refine .may ?_;rw[if_neg (by decide)];refine .may ?_;rw[if_neg (by decide)];refine .may ?_;rw[if_neg (by decide)];refine .may ?_;rw[if_neg (by decide)];exact .fail
theorem Ns{ts:List Tok}{c:Cmd}{i:Nat}{r:Rs}{st':St}(h:Run ts c ⟨i,false⟩ r st'):st'.ok=false:=by
 cases hok:st'.ok with
 | false=>rfl
 | true=>have:=h.grows.2 hok;cases this
theorem Nt:B4 ⟨0,a,tx,n⟩ (Bp .patom):=by
 intro ts i ok r st' ht hr
 cases ok with
 | false=>exact Ns hr
 | true =>
  cases hr with
  | look h1 hk =>
   have h1:ts[i]?=_:=h1;rw[ht] at h1;cases h1;simp only[] at hk;rw[if_neg (by decide),if_neg (by decide),if_neg (by decide),if_neg (by decide),if_neg (by decide)] at hk;exact(B4.callP (L5 _)) _ _ _ _ _ ht hk
theorem Rn:B4 ⟨0,a,tx,n⟩ (Bp .pat):=.look fun ok=>by
 rw[if_neg (by simp)];exact .callP Nt
theorem B4.must{s:LB}{c:Cmd}:B4 ⟨0,a,tx,n⟩ (Bk s c):=.look fun ok=>by
 rw[Ck,if_neg (by decide)];exact .fail
end
theorem CR.close{k k':Bool→Cmd}(h:∀ b,CR (k b) (k' b))(hd:∀ a tx n,B4 ⟨0,a,tx,n⟩ (k false)):CR (C0 [41] k) (C0 [41] k'):=by
 refine .look (fun q a a' tx n ok=>?_) (fun a a' tx n n' ok hnd=>absurd ?_ hnd)
 ·exact CR.ite (fun _ => .adv (h true)) (fun _=>h false)
 ·rw[Ck,if_neg (by decide)];exact hd _ _ _
theorem CR.must{s:LB}{c c':Cmd}(h:CR c c'):CR (Bk s c) (Bk s c'):=by
 refine .look (fun q a a' tx n ok=>?_) (fun a a' tx n n' ok hnd=>absurd ?_ hnd)
 ·exact CR.ite (fun _ => .adv h) (fun _ => .fail h)
 ·rw[Ck,if_neg (by decide)];exact .fail
theorem CR.name{k k':LB→Cmd}(h:∀ s,CR (k s) (k' s)):CR (Er k) (Er k'):=by
 refine .look (fun q a a' tx n ok=>?_) (fun a a' tx n n' ok hnd=>absurd ?_ hnd)
 ·exact CR.ite (fun _ => .adv (h _)) (fun _ => .fail (h _))
 ·rw[Pz,if_neg (by decide)];exact .fail
theorem CR.is{l:List LB}{k k':Bool→Cmd}(hl:l.contains [41]=false)(h:∀ b,CR (k b) (k' b)):CR (isC l k) (isC l k'):=by
 refine .look (fun q a a' tx n ok=>?_) (fun a a' tx n n' ok _=>?_)
 ·exact h _
 ·rw[Ck,Du _ _ _ _ hl];exact h _
theorem CR.see{k k':Tok→Bool→Cmd}(h:∀ t t' ok,CR (k t ok) (k' t' ok)):CR (.look k) (.look k'):=.look (fun _q _a _a' _tx _n _ok=>h _ _ _) (fun _a _a' _tx _n _n' _ok _=>h _ _ _)
theorem crP{nt nt':PNT}(h:PNR nt nt'):CR (Bp nt) (Bp nt'):=by
 cases h with
 | pat =>
  refine .look (fun q a a' tx n ok=>?_) (fun a a' tx n n' ok _=>?_)
  ·exact .ite (fun _ => .adv (.callP .patom fun x y h => .retP (sP (SL.one h)))) (fun _ => .callP .patom fun x y h => .retP h)
  ·rw[if_neg (by simp),if_neg (by simp)]
   exact .callP .patom fun x y h => .retP h
 | patom =>
  refine .look (fun q a a' tx n ok=>?_) (fun a a' tx n n' ok _=>?_)
  ·refine .ite (fun _ => .retP sPl) (fun _ => .ite (fun _ => .adv ?_) (fun _ => .ite (fun _ => .adv (.retP sPl)) (fun _ => .ite (fun _ => .adv (.retP sPl)) (fun _ => .ite (fun _ => .adv (.retP sPl)) (fun _ => .callP (.marked sPl) fun x y h => .retP h)))));refine .retP ?_;show Db (if _ then _ else _) (if _ then _ else _);split <;> exact sPl
  ·refine .ite (fun _ => .retP sPl) (fun _=>?_);rw[if_neg (by simp),if_neg (by simp),if_neg (by simp),if_neg (by simp),if_neg (by simp),if_neg (by simp),if_neg (by simp),if_neg (by simp)]
   exact .callP (.marked sPl) fun x y h => .retP h
 | marked h =>
  cases h with
  | mk hl h =>
   have hh:=SL.two (R:=Db) (x:=.zero) (y:=.zero) (x2:=.zero) (y2:=.zero) sPl sPl;unfold Bp;refine .may rfl fun b => .ite (fun _=>?_) (fun _ => .may rfl fun b => .ite (fun _ => .retP (.mk hl h)) (fun _ => .may rfl fun b => .ite (fun _ => .retP (.mk hl h)) (fun _ => .may rfl fun b => .ite (fun _=>?_) (fun _ => .may rfl fun b => .ite (fun _=>?_) (fun _ => .fail (.retP (.mk hl h)))))))
   ·refine .look (fun q a a' tx n ok=>?_) (fun a a' tx n n' ok _=>?_)
    ·exact .ite (fun _ => .ite (fun _ => .adv (.retP (.mk hl h))) (fun _ => .retP (.mk hl h))) (fun _ => .fail (.retP (.mk hl h)))
    ·rw[if_neg (by simp),if_neg (by simp)];exact .fail (.retP (.mk hl h))
   ·exact .close (fun b => .ite (fun _ => .retP (.mk hl h)) (fun _ => .callP .pat fun x y h => .must (.retP h))) (fun a tx n=>by rw[if_neg (by decide)];exact .callP Rn)
   ·exact .may rfl fun b => .ite (fun _ => .retP (.mk hl h)) (fun _ => .see fun t t' ok => .ite (fun _ => .callP (.recL ⟨hl,h⟩) fun x y h => .retP h) (fun _ => .must (.retP (.mk hl h))))
 | recL h =>
  unfold Bp;exact .name fun s => .must (.callP .pat fun x y hx => .may rfl fun b => .ite (fun _ => .callP (.recL (h.app hx)) fun x y h => .retP h) (fun _ => .must (.retP (sP (h.app hx)))))
theorem cr_brK(a a':Int)(n n':Tok)(hn:(n.k==7&&n.text==[61])=(n'.k==7&&n'.text==[61])):CR (.look (brK a n)) (.look (brK a' n')):=by
 have hb:∀ (c c':Bool),c=c'→CR (if c=true then (.callE (.recL a [] []) .retE)else Bk [125] (.retE (.mk 12 a [] 0 [] [] [] []))) (if c'=true then (.callE (.recL a' [] []) .retE)else Bk [125] (.retE (.mk 12 a' [] 0 [] [] [] []))):=by
  intro c c' e;subst e;exact .ite (fun _ => .callE (.recL (SL.nil_ _)) fun x y h => .retE h) (fun _ => .must (.retE sEl))
 have he:CR (.callE .seq fun x=>Bk [119,105,116,104] (Er fun nm=>Bk [61] (.callE .seq fun y=>Bk [125] (.retE (.mk 13 a nm 0 [] [] [x,y] [])))))
   (.callE .seq fun x=>Bk [119,105,116,104] (Er fun nm=>Bk [61] (.callE .seq fun y=>Bk [125] (.retE (.mk 13 a' nm 0 [] [] [x,y] []))))):=
  .callE .seq fun x y h => .must (.name fun s => .must (.callE .seq fun x2 y2 h2 => .must (.retE (sE0 (SL.two h h2)))))
 refine .look (fun q a0 a1 tx n0 ok=>?_) (fun a0 a1 tx n0 n1 ok _=>?_)
 ·unfold brK;rw[hn];exact .ite (fun _=>hb _ _ rfl) (fun _=>he)
 ·unfold brK;rw[if_neg (by simp),if_neg (by simp)];exact he
theorem crE{nt nt':NT}(h:NR nt nt'):CR (body nt) (body nt'):=by
 cases h with
 | seq=>exact .callE .item fun x y h => .see fun t t' ok => .may rfl fun b => .ite (fun _ => .callE .seq fun x2 y2 h2 => .retE (sE0 (SL.two h h2))) (fun _ => .retE h)
 | item =>
  refine .see fun t t' ok => .may rfl fun b => .ite (fun _=>?_) (fun _ => .is rfl fun b => .ite (fun _ => .callE .fn fun x y h => .retE h) (fun _ => .may rfl fun b => .ite (fun _ => .callE .arms fun x y h => .retE h) (fun _ => .may rfl fun b => .ite (fun _ => .callE .arms fun x y h => .retE h) (fun _ => .may rfl fun b => .ite (fun _=>?_) (fun _ => .may rfl fun b => .ite (fun _ => .callE .post fun x y h => .retE (sE0 (SL.one h))) (fun _=>?_))))))
  ·refine .may rfl fun r => .name fun s => .must (.callE ?_ fun x y h => .must (.callE .seq fun x2 y2 h2 => .retE (sE0 (SL.two h h2))))
   cases r
   ·exact .seq
   ·exact .fn
  ·exact .callE .seq fun x y h => .must (.callE .item fun x2 y2 h2 => .must (.callE .item fun x3 y3 h3 => .retE (sE0 (SL.three h h2 h3))))
  ·exact .callE .or fun x y h => .see fun t t' ok => .may rfl fun b => .ite (fun _ => .callE .item fun x2 y2 h2 => .retE (sE0 (SL.two h h2))) (fun _ => .retE h)
 | fn=>exact .see fun t t' ok => .must (.name fun s => .must (.callE .seq fun x y h => .retE (sE0 (SL.one h))))
 | arms=>exact .callE .seq fun x y h => .must (.see fun t t' ok => .ite (fun _ => .callE (.armsL h (SL.nil_ _)) fun x y h => .retE h) (fun _ => .must (.retE (sE0 (SL.one h)))))
 | armsL hx h=>exact .callP .pat fun p q hp => .must (.callE .seq fun x y h2 => .may rfl fun b => .ite (fun _ => .callE (.armsL hx (h.app ⟨hp,h2⟩)) fun x y h => .retE h) (fun _ => .must (.retE (sE (SL.one hx) (h.app ⟨hp,h2⟩)))))
 | or=>exact .callE .and fun x y h => .see fun t t' ok => .may rfl fun b => .ite (fun _ => .callE .or fun x2 y2 h2 => .retE (sE0 (SL.two h h2))) (fun _ => .retE h)
 | and=>exact .callE .cmp fun x y h => .see fun t t' ok => .may rfl fun b => .ite (fun _ => .callE .and fun x2 y2 h2 => .retE (sE0 (SL.two h h2))) (fun _ => .retE h)
 | cmp =>
  refine .callE .sum fun x y h => .look (fun q a a' tx n ok=>?_) (fun a a' tx n n' ok _=>?_)
  ·exact .ite (fun _ => .adv (.callE .sum fun x2 y2 h2 => .retE (sE0 (SL.two h h2)))) (fun _ => .retE h)
  ·rw[Ck,Du _ _ _ _ rfl,if_neg (by decide),if_neg (by decide)]
   exact .retE h
 | sum=>exact .callE .prod fun x y h => .callE (.sumL h) fun x y h => .retE h
 | sumL h =>
  refine .look (fun q a a' tx n ok=>?_) (fun a a' tx n n' ok _=>?_)
  ·exact .ite (fun _ => .adv (.callE .prod fun x2 y2 h2 => .callE (.sumL (sE0 (SL.two h h2))) fun x y h => .retE h)) (fun _ => .retE h)
  ·rw[Ck,Du _ _ _ _ rfl,if_neg (by decide),if_neg (by decide)]
   exact .retE h
 | prod=>exact .callE .unary fun x y h => .callE (.prodL h) fun x y h => .retE h
 | prodL h =>
  refine .look (fun q a a' tx n ok=>?_) (fun a a' tx n n' ok _=>?_)
  ·exact .ite (fun _ => .adv (.callE .unary fun x2 y2 h2 => .callE (.prodL (sE0 (SL.two h h2))) fun x y h => .retE h)) (fun _ => .retE h)
  ·rw[Ck,Du _ _ _ _ rfl,if_neg (by decide),if_neg (by decide)]
   exact .retE h
 | unary=>exact .see fun t t' ok => .may rfl fun b => .ite (fun _ => .callE .unary fun x y h => .retE (sE0 (SL.one h))) (fun _ => .may rfl fun b => .ite (fun _ => .callE .unary fun x y h => .retE (sE0 (SL.one h))) (fun _ => .callE .app fun x y h => .retE h))
 | app =>
  refine .look (fun q a a' tx n ok=>?_) (fun a a' tx n n' ok _=>?_)
  ·exact .ite (fun _ => .adv (.callE .post fun x y h => .retE (sE0 (SL.one h)))) (fun _ => .ite (fun _ => .adv (.callE (.opL (SL.nil_ _)) fun x y h => .retE h)) (fun _ => .callE .post fun x y h => .callE (.appL h) fun x y h => .retE h))
  ·rw[if_neg (by simp),if_neg (by simp),if_neg (by simp),if_neg (by simp)]
   exact .callE .post fun x y h => .callE (.appL h) fun x y h => .retE h
 | @opL n a a' m acc acc' h =>
  cases m with
  | zero=>exact .retE (sE0 h)
  | succ m=>exact .callE .post fun x y hx => .callE (.opL (h.app hx)) fun x y h => .retE h
 | appL h =>
  refine .look (fun q a a' tx n ok=>?_) (fun a a' tx n n' ok _=>?_)
  ·exact .ite (fun _ => .callE .post fun x2 y2 h2 => .callE (.appL (sE0 (SL.two h h2))) fun x y h => .retE h) (fun _ => .retE h)
  ·have e1:Bu ⟨0,a,tx,n⟩ ok=false:=by cases ok <;> rfl
   have e2:Bu ⟨7,a',[41],n'⟩ ok=false:=by cases ok <;> rfl
   rw[e1,e2,if_neg (by decide),if_neg (by decide)]
   exact .retE h
 | post=>exact .see fun t t' ok => .may rfl fun b => .ite (fun _ => .callE .post fun x y h => .retE (sE0 (SL.one h))) (fun _ => .callE .atom fun x y h => .callE (.postL h) fun x y h => .retE h)
 | postL h =>
  refine .look (fun q a a' tx n ok=>?_) (fun a a' tx n n' ok _=>?_)
  ·exact .ite (fun _ => .adv (.name fun s => .callE (.postL (sE0 (SL.one h))) fun x y h => .retE h)) (fun _ => .retE h)
  ·rw[Ck,Du _ _ _ _ rfl,if_neg (by decide),if_neg (by decide)]
   exact .retE h
 | atom =>
  refine .look (fun q a a' tx n ok=>?_) (fun a a' tx n n' ok _=>?_)
  ·refine .ite (fun _ => .adv ?_) (fun _ => .fail (.retE sEl));refine .ite (fun _ => .retE sEl) (fun _ => .ite (fun _ => .retE sEl) (fun _ => .ite (fun _ => .retE sEl) (fun _ => .ite (fun _ => .retE sEl) (fun _ => .ite (fun _ => .retE sEl) (fun _ => .ite (fun _ => .retE sEl) (fun _ => .ite (fun _ => .callE .braces fun x y h => .retE h) (fun _=>?_)))))));exact .close (fun b => .ite (fun _ => .retE sEl) (fun _ => .callE .seq fun x y h => .must (.retE h))) (fun a tx n=>by rw[if_neg (by decide)];exact .callE L6)
  ·have e1:Bu ⟨0,a,tx,n⟩ ok=false:=by cases ok <;> rfl
   have e2:Bu ⟨7,a',[41],n'⟩ ok=false:=by cases ok <;> rfl
   rw[e1,e2,if_neg (by simp),if_neg (by simp)]
   exact .fail (.retE sEl)
 | @braces a a' =>
  unfold body
  exact .may rfl fun b => .ite (fun _ => .retE sEl) (fun _ => .ahead (fun n n' hn=>cr_brK a a' n n' hn))
 | recL h =>
  unfold body;exact .name fun s => .must (.callE .seq fun x y hx => .may rfl fun b => .ite (fun _ => .callE (.recL (h.app hx)) fun x y h => .retE h) (fun _ => .must (.retE (sE0 (h.app hx)))))
inductive RsR:Rs→Rs→Prop
 | e {x y} (h:A8 x y):RsR (.e x) (.e y)
 | p {x y} (h:Db x y):RsR (.p x) (.p y)
theorem Run.sim{ts ts2:List Tok}{d:Nat}{strict:Prop}(hE:E1 ts)(hE2:E1 ts2)
  (hT:∀ (j:Nat) (q:Int) (a:Nat) (tx:LB) (n:Int),ts[j]?=some ⟨q,a,tx,n⟩→(∃ a',ts2[j+d]?=some ⟨q,a',tx,n⟩)∨(strict∧q=0∧∃ a' n',ts2[j+d]?=some ⟨7,a',[41],n'⟩))
  {c:Cmd} {st:St} {r:Rs} {st':St} (h:Run ts c st r st'):∀ {c2:Cmd},CR c c2→(strict→st'.ok=true)→∃ r2,RsR r r2∧Run ts2 c2 ⟨st.i+d,st.ok⟩ r2 ⟨st'.i+d,st'.ok⟩:=by
 induction h with
 | retE=>intro c2 hc _;cases hc with|retE h=>exact⟨_,.e h,.retE⟩
 | retP=>intro c2 hc _;cases hc with|retP h=>exact⟨_,.p h,.retP⟩
 | @look k t st r st' h hk ih =>
  intro c2 hc hok;obtain⟨q,a,tx,n⟩:=t
  cases hc with
  | look h1 h2 =>
   rcases hT _ _ _ _ _ h with⟨a',ht⟩| ⟨hs,rfl,a',n',ht⟩
   ·obtain⟨r2,e,hr⟩:=ih (h1 q a a' tx n _) hok;exact⟨r2,e,.look ht hr⟩
   ·by_cases hd:B4 ⟨0,a,tx,n⟩ (k ⟨0,a,tx,n⟩ st.ok)
    ·have h3:=hd _ _ _ _ _ h hk;rw[hok hs] at h3;cases h3
    ·obtain⟨r2,e,hr⟩:=ih (h2 a a' tx n n' st.ok hd) hok
     exact⟨r2,e,.look ht hr⟩
 | @ahead k n st r st' h hk ih =>
  intro c2 hc hok
  cases hc with
  | @ahead a a' hn =>
   have key:∃ n',Fv ts2 (st.i+d)=some n':=by
    unfold Fv
    cases hk with
    | @look _ t _ _ _ ht hk =>
     obtain⟨q,b,tx,m⟩:=t
     have hl:ts2.length≠0:=by
      rcases hT _ _ _ _ _ ht with⟨b',h'⟩| ⟨_,_,b',n',h'⟩<;>(intro e;rw[List.length_eq_zero_iff.1 e] at h';simp at h')
     exact⟨_,Lg' (by omega)⟩
   obtain⟨n',hn'⟩:=key
   cases hk2:hk with
   | @look _ t _ _ _ ht hk3 =>
    obtain⟨q,b,tx,m⟩:=t;by_cases hq:q=1
    ·subst hq;rw[H9 hE ht (by simp)] at h
     obtain⟨b',ht'⟩:∃ b',ts2[st.i+d]?=some ⟨1,b',tx,m⟩:=by
      rcases hT _ _ _ _ _ ht with h' | ⟨_,h',_⟩
      ·exact h'
      ·cases h'
     rw[H9 hE2 ht' (by simp)] at hn'
     have hcond:(n.k==7&&n.text==[61])=(n'.k==7&&n'.text==[61]):=by
      obtain⟨q,b2,tx2,m2⟩:=n
      rcases hT _ _ _ _ _ h with⟨b3,h'⟩| ⟨_,rfl,b3,m3,h'⟩
      ·rw[show st.i+1+d=st.i+d+1 by omega,hn'] at h';cases h';rfl
      ·rw[show st.i+1+d=st.i+d+1 by omega,hn'] at h';cases h';rfl
     obtain⟨r2,e,hr⟩:=ih (hn n n' hcond) hok;exact⟨r2,e,.ahead (by simp only;rw[H9 hE2 ht' (by simp)];exact hn') hr⟩
    ·obtain⟨r2,e,hr⟩:=ih (hn n n rfl) hok;refine⟨r2,e,.ahead hn' ?_⟩
     cases hr with
     | look ht' hk' =>
      refine .look ht' ?_
      rename_i t'
      have:t'.k≠1:=by
       rcases hT _ _ _ _ _ ht with⟨b',h'⟩| ⟨_,_,b',n2,h'⟩
       ·rw[show ts2[st.i+d]?=some t' from ht'] at h';cases h';exact hq
       ·rw[show ts2[st.i+d]?=some t' from ht'] at h';cases h';simp
      rw[brK_eq this (n':=n)]
      exact hk'
 | adv hk ih =>
  intro c2 hc hok
  cases hc with
  | adv hc =>
   obtain⟨r2,e,hr⟩:=ih hc hok;refine⟨r2,e,.adv ?_⟩;simp only at hr ⊢;rw[Nat.add_right_comm]
   exact hr
 | fail hk ih =>
  intro c2 hc hok
  cases hc with
  | fail hc =>
   obtain⟨r2,e,hr⟩:=ih hc hok
   exact⟨r2,e,.fail hr⟩
 | @callE nt k st x st1 r st' h hk ih1 ih2 =>
  intro c2 hc hok
  cases hc with
  | callE hn hc =>
   obtain⟨r1,e1,hr1⟩:=ih1 (crE hn) (fun hs=>hk.grows.2 (hok hs))
   cases e1 with
   | e hx =>
    obtain⟨r2,e2,hr2⟩:=ih2 (hc _ _ hx) hok
    exact⟨r2,e2,.callE hr1 hr2⟩
 | @callP nt k st x st1 r st' h hk ih1 ih2 =>
  intro c2 hc hok
  cases hc with
  | callP hn hc =>
   obtain⟨r1,e1,hr1⟩:=ih1 (crP hn) (fun hs=>hk.grows.2 (hok hs))
   cases e1 with
   | p hx =>
    obtain⟨r2,e2,hr2⟩:=ih2 (hc _ _ hx) hok;exact⟨r2,e2,.callP hr1 hr2⟩
mutual
def laP:Av→Nat
 | .mk _ _ _ _ _ ls args=>1+ls.length+Fp args
def Fp:List Av→Nat
 | []=>0
 | x::l=>laP x+Fp l
end
mutual
def laE:Ah→Nat
 | .mk _ _ _ _ _ ls args arms=>1+ls.length+(Cw args+Cz arms)
def Cw:List Ah→Nat
 | []=>0
 | x::l=>laE x+Cw l
def Cz:List (Av×Ah)→Nat
 | []=>0
 | x::l=>laA x+Cz l
def laA:Av×Ah→Nat
 | (p,x)=>laP p+laE x
end
theorem Mg(l m:List Av):Fp (l++m)=Fp l+Fp m:=by
 induction l with
 | nil=>simp[Fp]
 | cons x l ih=>simp[Fp,ih];omega
theorem Jk(l m:List Ah):Cw (l++m)=Cw l+Cw m:=by
 induction l with
 | nil=>simp[Cw]
 | cons x l ih=>simp[Cw,ih];omega
theorem Md(l m:List (Av×Ah)):Cz (l++m)=Cz l+Cz m:=by
 induction l with
 | nil=>simp[Cz]
 | cons x l ih=>simp[Cz,ih];omega
theorem Mh{l:List Av}{i:Nat}{x:Av}(h:l[i]?=some x):laP x≤Fp l:=by
 induction l generalizing i with
 | nil=>simp at h
 | cons y l ih =>
  cases i with
  | zero=>simp at h;subst h;simp[Fp]
  | succ i=>simp at h;have:=ih h;simp[Fp];omega
theorem Mf{l:List Ah}{i:Nat}{x:Ah}(h:l[i]?=some x):laE x≤Cw l:=by
 induction l generalizing i with
 | nil=>simp at h
 | cons y l ih =>
  cases i with
  | zero=>simp at h;subst h;simp[Cw]
  | succ i=>simp at h;have:=ih h;simp[Cw];omega
theorem Me{l:List (Av×Ah)}{i:Nat}{p:Av}{x:Ah}(h:l[i]?=some (p,x)):laP p+laE x≤Cz l:=by
 induction l generalizing i with
 | nil=>simp at h
 | cons y l ih =>
  cases i with
  | zero=>simp at h;subst h;simp[Cz,laA]
  | succ i=>simp at h;have:=ih h;simp[Cz];omega
theorem laPs_ge(l:List Av):l.length≤Fp l:=by
 induction l with
 | nil=>simp
 | cons x l ih=>cases x;simp[Fp,laP];omega
theorem O2(l:List Ah):l.length≤Cw l:=by
 induction l with
 | nil=>simp
 | cons x l ih=>cases x;simp[Cw,laE];omega
theorem O1(l:List (Av×Ah)):l.length≤Cz l:=by
 induction l with
 | nil=>simp
 | cons x l ih=>obtain⟨p,x⟩:=x;cases x;cases p;simp[Cz,laA,laE,laP];omega
def A1:NT→Nat
 | .armsL _ _ x acc=>laE x+Cz acc+2
 | .sumL a=>laE a+1
 | .prodL a=>laE a+1
 | .opL _ _ _ acc=>Cw acc+2
 | .appL a=>laE a+1
 | .postL a=>laE a+1
 | .braces _=>2
 | .recL _ ls args=>Cw args+ls.length+2
 | _=>0
def Df:PNT→Nat
 | .marked (.mk _ _ _ _ _ ls args)=>Fp args+ls.length
 | .recL _ ls args=>Fp args+ls.length+2
 | _=>0
def lWt:Nat→Cmd→Prop
 | b,.retE x=>laE x+1≤b
 | b,.retP x=>laP x+1≤b
 | b,.look k=>∀ t,lWt b (k t true)
 | b,.ahead k=>∀ n,lWt b (k n)
 | b,.adv k=>lWt (b+2) k
 | _,.fail _=>True
 | b,.callE nt k=>∀ x m,laE x+1≤A1 nt+2 * m→lWt (b+2 * m) (k x)
 | b,.callP nt k=>∀ x m,laP x+1≤Df nt+2 * m→lWt (b+2 * m) (k x)
theorem Bo{p:Prop} [Decidable p] {b:Nat}{c d:Cmd}(h1:p→lWt b c)(h2:¬ p→lWt b d):lWt b (if p then c else d):=by
 split
 ·exact h1 (by assumption)
 ·exact h2 (by assumption)
theorem Mi{s:LB}{b:Nat}{k:Bool→Cmd}(h1:lWt (b+2) (k true))(h2:lWt b (k false)):lWt b (C0 s k):=fun _=>Bo (fun _=>h1) (fun _=>h2)
theorem Bv{s:LB}{b:Nat}{c d:Cmd}(h1:lWt (b+2) c)(h2:lWt b d):lWt b (C0 s fun b=>if b=true then c else d):=Mi h1 h2
theorem lwt_adv{b:Nat}{c:Cmd}(h:lWt (b+2) c):lWt b (.adv c):=h
theorem Sd{b:Nat}{c:Cmd}:lWt b (.fail c):=trivial
theorem lwt_isI{l:List LB}{b:Nat}{c d:Cmd}(h1:lWt b c)(h2:lWt b d):lWt b (isC l fun b=>if b=true then c else d):=fun t=>by
 show lWt b (if _ then _ else _);exact Bo (fun _=>h1) (fun _=>h2)
theorem Br{s:LB}{b:Nat}{c:Cmd}(h:lWt (b+2) c):lWt b (Bk s c):=fun _=>Bo (fun _=>h) (fun _=>trivial)
theorem Fa{b:Nat}{k:LB→Cmd}(h:∀ s,lWt (b+2) (k s)):lWt b (Er k):=fun _=>Bo (fun _=>h _) (fun _=>trivial)
theorem Ax{x:Ah}{b:Nat}(h:laE x+1≤b):lWt b (.retE x):=h
theorem B8{x:Av}{b:Nat}(h:laP x+1≤b):lWt b (.retP x):=h
theorem lwtP(nt:PNT):lWt (Df nt) (Bp nt):=by
 cases nt with
 | pat =>
  refine fun t=>Bo (fun _=>fun x m h=>B8 ?_) (fun _=>fun x m h=>B8 ?_)<;> simp only[Ln',Df,laP,Fp] at * <;> omega
 | patom =>
  refine fun t=>Bo (fun h=>by cases h) (fun _=>Bo (fun _=>B8 ?_) (fun _=>Bo (fun _=>B8 ?_) (fun _=>Bo (fun _=>B8 ?_) (fun _=>Bo (fun _=>B8 ?_) (fun _=>fun x m h=>B8 ?_)))))
  ·split <;> simp[laP,Fp,Df]
  all_goals simp only[Ln',Df,laP,Fp] at * <;> omega
 | marked x =>
  obtain⟨k,a,nm,n,s,ls,args⟩:=x;unfold Bp;refine Bv ?_ (Bv ?_ (Bv ?_ (Bv ?_ (Bv ?_ Sd))))
  ·exact fun t=>Bo (fun _=>Bo (fun _=>B8 (by simp only[Df,laP];omega)) (fun _=>B8 (by simp only[Df,laP];omega))) (fun _=>trivial)
  ·exact B8 (by simp only[Df,laP];omega)
  ·exact B8 (by simp only[Df,laP];omega)
  ·exact Bv (B8 (by simp only[Df,laP];omega)) (fun x m h=>Br (B8 (by simp only[Df] at *;omega)))
  ·refine Bv (B8 (by simp only[Df,laP];omega)) (fun t=>Bo (fun _=>fun x m h=>B8 (by simp only[Df] at *;omega)) (fun h=>absurd rfl h))
 | recL a ls args =>
  unfold Bp;refine Fa fun s=>Br fun x m h=>Bv ?_ ?_
  ·exact fun y m2 h2=>B8 (by simp only[Ln',La',Lc',Df,Mg,Fp] at *;omega)
  ·exact Br (B8 (by simp only[Ln',La',Lc',Df,Mg,Fp,laP] at *;omega))
theorem lwtE(nt:NT):lWt (A1 nt) (body nt):=by
 cases nt with
 | seq=>exact fun x m h t=>Bv (fun y m2 h2=>Ax (by simp only[Ln',A1,Dg,laE,Cw,Cz] at *;omega)) (Ax (by simp only[A1] at *;omega))
 | item =>
  refine fun t=>Bv ?_ (lwt_isI (fun x m h=>Ax (by simp only[A1] at *;omega)) (Bv (fun x m h=>Ax (by simp only[A1] at *;omega)) (Bv (fun x m h=>Ax (by simp only[A1] at *;omega)) (Bv ?_ (Bv ?_ ?_)))))
  ·refine Mi ?_ ?_
   ·exact Fa fun s=>Br fun x m h=>Br fun y m2 h2=>Ax (by simp only[Ln',if_true,A1,laE,Cw,Cz] at *;omega)
   ·exact Fa fun s=>Br fun x m h=>Br fun y m2 h2=>Ax (by
     have h:laE x+1≤A1 .seq+2 * m:=h
     simp only[Ln',A1,laE,Cw,Cz] at *;omega)
  ·exact fun x m h=>Br fun y m2 h2=>Br fun z m3 h3=>Ax (by simp only[Ln',A1,Dg,laE,Cw,Cz] at *;omega)
  ·exact fun x m h=>Ax (by simp only[Ln',A1,Dg,laE,Cw,Cz] at *;omega)
  ·exact fun x m h t=>Bv (fun y m2 h2=>Ax (by simp only[Ln',A1,opE,laE,Cw,Cz] at *;omega)) (Ax (by simp only[A1] at *;omega))
 | fn=>exact fun t=>Br (Fa fun s=>Br fun x m h=>Ax (by simp only[Ln',A1,laE,Cw,Cz] at *;omega))
 | arms k a=>exact fun x m h=>Br fun t=>Bo (fun _=>fun y m2 h2=>Ax (by simp only[A1,Cz] at *;omega)) (fun h=>absurd rfl h)
 | armsL k a x acc=>exact fun p m h=>Br fun y m2 h2=>Bv (fun z m3 h3=>Ax (by simp only[A1,Df,Md,Cz,laA] at *;omega)) (Br (Ax (by simp only[Ln',A1,Df,Md,Cz,laA,laE,Cw] at *;omega)))
 | or=>exact fun x m h t=>Bv (fun y m2 h2=>Ax (by simp only[Ln',A1,Dg,laE,Cw,Cz] at *;omega)) (Ax (by simp only[A1] at *;omega))
 | and=>exact fun x m h t=>Bv (fun y m2 h2=>Ax (by simp only[Ln',A1,Dg,laE,Cw,Cz] at *;omega)) (Ax (by simp only[A1] at *;omega))
 | cmp=>exact fun x m h t=>Bo (fun _=>fun y m2 h2=>Ax (by simp only[Ln',A1,opE,laE,Cw,Cz] at *;omega)) (fun _=>Ax (by simp only[A1] at *;omega))
 | sum=>exact fun x m h y m2 h2=>Ax (by simp only[A1] at *;omega)
 | sumL a=>exact fun t=>Bo (fun _=>fun x m h y m2 h2=>Ax (by simp only[Ln',A1,opE,laE,Cw,Cz] at *;omega)) (fun _=>Ax (by simp only[A1] at *;omega))
 | prod=>exact fun x m h y m2 h2=>Ax (by simp only[A1] at *;omega)
 | prodL a=>exact fun t=>Bo (fun _=>fun x m h y m2 h2=>Ax (by simp only[Ln',A1,opE,laE,Cw,Cz] at *;omega)) (fun _=>Ax (by simp only[A1] at *;omega))
 | unary=>exact fun t=>Bv (fun x m h=>Ax (by simp only[Ln',A1,opE,laE,Cw,Cz] at *;omega)) (Bv (fun x m h=>Ax (by simp only[Ln',A1,opE,laE,Cw,Cz] at *;omega)) (fun x m h=>Ax (by simp only[A1] at *;omega)))
 | app =>
  refine fun t=>Bo (fun _=>fun x m h=>Ax ?_) (fun _=>Bo (fun _=>fun x m h=>Ax ?_) (fun _=>fun x m h y m2 h2=>Ax ?_))<;> simp only[Ln',A1,laE,Cw,Cz] at * <;> omega
 | opL n a m acc =>
  cases m with
  | zero=>exact Ax (by simp only[Ln',A1,opE,laE,Cz];omega)
  | succ m=>exact fun x m1 h y m2 h2=>Ax (by simp only[A1,Jk,Cw] at *;omega)
 | appL a=>exact fun t=>Bo (fun _=>fun x m h y m2 h2=>Ax (by simp only[Ln',A1,Dg,laE,Cw,Cz] at *;omega)) (fun _=>Ax (by simp only[A1] at *;omega))
 | post=>exact fun t=>Bv (fun x m h=>Ax (by simp only[Ln',A1,opE,laE,Cw,Cz] at *;omega)) (fun x m h y m2 h2=>Ax (by simp only[A1] at *;omega))
 | postL a=>exact fun t=>Bo (fun _=>lwt_adv (Fa fun s=>fun y m2 h2=>Ax (by simp only[Ln',A1,laE,Cw,Cz] at *;omega))) (fun _=>Ax (by simp only[A1] at *;omega))
 | atom =>
  intro t;refine Bo (fun _=>?_) (fun _=>trivial);show lWt (0+2) _
  repeat refine Bo (fun _=>(by first|exact Ax (by simp only[Ln',laE,Cw,Cz];omega)| exact fun x m h=>Ax (by simp only[A1] at *;omega))) (fun _=>?_)
  exact Bv (Ax (by simp only[Ln',laE,Cw,Cz];omega)) (fun x m h=>Br (Ax (by simp only[A1] at *;omega)))
 | braces a =>
  unfold body
  refine Bv (Ax (by simp only[Ln',A1,laE,Cw,Cz];omega)) (fun n t=>Bo (fun _=>Bo (fun _=>fun x m h=>Ax (by simp only[Ln',A1,Cw] at *;omega)) (fun h=>absurd rfl h)) (fun _=>fun x m h=>Br (Fa fun s=>Br fun y m2 h2=>Br (Ax (by simp only[Ln',A1,laE,Cw,Cz] at *;omega)))))
 | recL a ls args =>
  unfold body;refine Fa fun s=>Br fun x m h=>Bv ?_ ?_
  ·exact fun y m2 h2=>Ax (by simp only[Ln',La',Lc',A1,Jk,Cw] at *;omega)
  ·exact Br (Ax (by simp only[Ln',La',Lc',A1,Jk,Cw,laE,Cz] at *;omega))
def laR:Rs→Nat
 | .e x=>laE x
 | .p x=>laP x
theorem Run.laCost{ts:List Tok}{c:Cmd}{st:St}{r:Rs}{st':St}(h:Run ts c st r st'):∀ {b:Nat},lWt b c→st'.ok=true→laR r+1≤b+2 *(st'.i-st.i):=by
 induction h with
 | retE=>intro b hw _;simp only[lWt] at hw;simp only[laR];omega
 | retP=>intro b hw _;simp only[lWt] at hw;simp only[laR];omega
 | look h hk ih=>intro b hw hok;have:=hk.grows.2 hok;exact ih (by rw[this];exact hw _) hok
 | ahead h hk ih=>intro b hw hok;exact ih (hw _) hok
 | adv hk ih =>
  intro b hw hok;have h1:=ih (b:=b+2) hw hok;have h2:=hk.grows.1;simp only at h1 h2
  omega
 | fail hk ih=>intro b hw hok;have:=hk.grows.2 hok;cases this
 | @callE nt k st x st1 r st' h hk ih1 ih2 =>
  intro b hw hok;have h1:=ih1 (lwtE nt) (hk.grows.2 hok);have h2:=ih2 (b:=b+2 *(st1.i-st.i)) (hw x _ h1) hok;have h3:=h.grows.1;have h4:=hk.grows.1
  omega
 | @callP nt k st x st1 r st' h hk ih1 ih2 =>
  intro b hw hok;have h1:=ih1 (lwtP nt) (hk.grows.2 hok);have h2:=ih2 (b:=b+2 *(st1.i-st.i)) (hw x _ h1) hok;have h3:=h.grows.1;have h4:=hk.grows.1;omega
end Go.Proofs.YtpjkfeehgookkaaGreatDoor
