/- A part of the proof: Pq, Pp, Pr, W6t. -/
import Derived.Test.YtlafbbnikgcdlaaGreatDoorKb1
namespace Go.Proofs.YtlafbbnikgcdlaaGreatDoor
open Go.RowKit
open _root_.Go.Proofs.Tryz
set_option linter.all false
set_option maxHeartbeats 16000000
set_option maxRecDepth 100000
variable{p:Prop}
open List renaming length_cons→Lc',getElem?_eq_getElem→Lg',cons_append→Lp'
open Nat renaming lt_of_lt_of_le→Nl',le_refl→Nr'
open Bool renaming and_eq_true→Ba'
def I8(ts:List Tok):Nat→Cmd→St→Option (Rs×St)
 | 0,_,_=>none
 | _+1,.retE x,st=>some (.e x,st)
 | _+1,.retP x,st=>some (.p x,st)
 | f+1,.look k,st=>match ts[st.i]? with
  | some t=>I8 ts f (k t st.ok) st
  | none=>none
 | f+1,.ahead k,st=>match Lo ts st.i with
  | some t=>I8 ts f (k t) st
  | none=>none
 | f+1,.adv k,st=>I8 ts f k ⟨st.i+1,st.ok⟩
 | f+1,.fail k,st=>I8 ts f k ⟨st.i,false⟩
 | f+1,.callE nt k,st=>match I8 ts f (body nt) st with
  | some (.e x,st1)=>I8 ts f (k x) st1
  | _=>none
 | f+1,.callP nt k,st=>match I8 ts f (Dd nt) st with
  | some (.p x,st1)=>I8 ts f (k x) st1
  | _=>none
theorem Hb{ts:List Tok}:∀ (f:Nat)(c:Cmd)(st:St)(r:Rs)(st':St),I8 ts f c st=some (r,st')→Run ts c st r st'
 | 0,_,_,_,_,h=>by simp[I8] at h
 | f+1,c,st,r,st',h=>by
  cases c with
  | retE x=>simp[I8] at h;obtain⟨rfl,rfl⟩:=h;exact .retE
  | retP x=>simp[I8] at h;obtain⟨rfl,rfl⟩:=h;exact .retP
  | look k =>
   cases ht:ts[st.i]? with
   | none=>simp[I8,ht] at h
   | some t=>simp[I8,ht] at h;exact .look ht (Hb f _ _ _ _ h)
  | ahead k =>
   cases ht:Lo ts st.i with
   | none=>simp[I8,ht] at h
   | some t=>simp[I8,ht] at h;exact .ahead ht (Hb f _ _ _ _ h)
  | adv k=>simp[I8] at h;exact .adv (Hb f _ _ _ _ h)
  | fail k=>simp[I8] at h;exact .fail (Hb f _ _ _ _ h)
  | callE nt k =>
   cases hb:I8 ts f (body nt) st with
   | none=>simp[I8,hb] at h
   | some q =>
    obtain⟨q,st1⟩:=q
    cases q with
    | e x=>simp[I8,hb] at h;exact .callE (Hb f _ _ _ _ hb) (Hb f _ _ _ _ h)
    | p x=>simp[I8,hb] at h
  | callP nt k =>
   cases hb:I8 ts f (Dd nt) st with
   | none=>simp[I8,hb] at h
   | some q =>
    obtain⟨q,st1⟩:=q
    cases q with
    | e x=>simp[I8,hb] at h
    | p x=>simp[I8,hb] at h;exact .callP (Hb f _ _ _ _ hb) (Hb f _ _ _ _ h)
def brK(a:Int)(n:Tok)(t:Tok)(ok:Bool):Cmd:=if (t.k==1&&(n.k==7&&n.text==[61]))=true then (if ok=true then .callE (.recL a [] []) .retE else Ch [125] (.retE (.mk 12 a [] 0 [] [] [] [])))else
   .callE .seq fun x=>Ch [119,105,116,104] (Hq fun nm=>Ch [61] (.callE .seq fun y=>Ch [125] (.retE (.mk 13 a nm 0 [] [] [x,y] []))))
def Uy:Option (Tok×Bool)→Cmd→Prop
 | _,.retE _=>True
 | _,.retP _=>True
 | kn,.look k=>∀ t ok,(∀ p,kn=some p→p=(t,ok))→Uy (some (t,ok)) (k t ok)
 | kn,.ahead k=>(∃ a,k=fun n => .look (brK a n))∧∀ n,Uy kn (k n)
 | kn,.adv k=>(∃ t,kn=some (t,true)∧t.k≠0)∧Uy none k
 | _,.fail k=>Uy none k
 | _,.callE _ k=>∀ x,Uy none (k x)
 | _,.callP _ k=>∀ x,Uy none (k x)
theorem Uy.weak{c:Cmd}(h:Uy none c)(kn:Option (Tok×Bool)):Uy kn c:=by
 induction c generalizing kn with
 | retE=>trivial
 | retP=>trivial
 | look k ih=>intro t ok _;exact h t ok (fun p hp=>by cases hp)
 | ahead k ih=>exact⟨h.1,fun n=>ih n (h.2 n) kn⟩
 | adv k ih=>obtain⟨⟨t,ht,_⟩,_⟩:=h;cases ht
 | fail k ih=>exact h
 | callE nt k ih=>exact h
 | callP nt k ih=>exact h
theorem isB_ok'{t:Tok}{ok:Bool}{l:List LB}(h:isB t ok l=true):ok=true∧t.k≠0:=by
 exact qq310
theorem Rg{t:Tok}{ok:Bool}(h:Di t ok=true):ok=true∧t.k≠0:=by
 unfold Di at h;simp only[Bool.or_eq_true,Ba',beq_iff_eq] at h;rcases h with h|h
 ·exact⟨h.1,oM⟩
 ·exact isB_ok' h
def Kn(ts:List Tok)(st:St)(kn:Option (Tok×Bool)):Prop:=∀ p,kn=some p→ts[st.i]?=some p.1∧st.ok=p.2
theorem Kn.none_(ts:List Tok)(st:St):Kn ts st none:=fun p h=>by cases h
theorem Kn.see{ts:List Tok}{st:St}{t:Tok}(h:ts[st.i]?=some t):Kn ts st (some (t,st.ok)):=fun p hp=>by cases hp;exact⟨h,rfl⟩
theorem Kn.to{ts:List Tok}{st:St}{t:Tok}{kn:Option (Tok×Bool)}(hk:Kn ts st kn)(h:ts[st.i]?=some t):∀ p,kn=some p→p=(t,st.ok):=fun p hp=>by
 obtain⟨h1,h2⟩:=hk p hp;rw[h] at h1;cases h1;rw[h2]
theorem Xa{t:Tok}(h:t.k=1)(ok:Bool)(l:List LB):isB t ok l=false:=by
 unfold isB O8;rw[h];cases ok <;> rfl
def Jm(ts:List Tok)(i:Nat)(c:Cmd):Prop:=∀ r st',Run ts c ⟨i,true⟩ r st'→i<st'.i
theorem Jm.callE{ts:List Tok}{i:Nat}{nt:NT}{k:Ad→Cmd}(h:Jm ts i (body nt)):Jm ts i (.callE nt k):=by
 intro r st' hr
 cases hr with
 | callE h1 hk=>exact Nl' (h _ _ h1) hk.grows.1
theorem Jm.look{ts:List Tok}{i:Nat}{t:Tok}(ht:ts[i]?=some t){k:Tok→Bool→Cmd}(h:Jm ts i (k t true)):Jm ts i (.look k):=by
 intro r st' hr
 cases hr with
 | look h1 hk=>rw[ht] at h1;cases h1;exact h _ _ hk
theorem Jm.adv{ts:List Tok}{i:Nat}{k:Cmd}:Jm ts i (.adv k):=by
 intro r st' hr
 cases hr with
 | adv hk=>exact hk.grows.1
theorem Jm.may{ts:List Tok}{i:Nat}{t:Tok}(ht:ts[i]?=some t)(hk:t.k=1){s:LB}{k:Bool→Cmd}(h:Jm ts i (k false)):Jm ts i (Ed s k):=
 .look ht (by rw[Xa hk,if_neg dC];exact h)
theorem Jm.is{ts:List Tok}{i:Nat}{t:Tok}(ht:ts[i]?=some t)(hk:t.k=1){l:List LB}{k:Bool→Cmd}(h:Jm ts i (k false)):Jm ts i (isC l k):=
 .look ht (by rw[Xa hk];exact h)
theorem Vy{ts:List Tok}{st:St}{u:Tok}{r:Rs}{st':St}(hu:ts[st.i]?=some u)(hb:Di u st.ok=true)(h:Run ts (body .post) st r st'):st.i<st'.i:=by
 obtain⟨i,ok⟩:=st;have hok:ok=true:=(Rg hb).1;subst hok;have hu:ts[i]?=some u:=hu;have hb:Di u true=true:=hb;refine(show Jm ts i (body .post)from .look hu (.look hu ?_)) _ _ h;split
 ·exact .adv
 ·rename_i h33
  show Jm ts i (.callE .atom fun a => .callE (.postL a) .retE);refine .callE (.look hu ?_);have h33:isB u true [[33]]=false:=by simpa using h33
  rw[hb,h33,if_pos rF];exact .adv
def Nl(ts:List Tok):Prop:=∀ (j:Nat)(t:Tok),ts[j]?=some t→t.k≠0→j+1<ts.length
theorem Pb{ts:List Tok}(h:Nl ts){j:Nat}{t:Tok}(ht:ts[j]?=some t)(hk:t.k≠0):Lo ts j=ts[j+1]?:=by
 unfold Lo;have:=h j t ht hk;rw[Nat.min_eq_left oM]
theorem brK_eq{a:Int}{n n' t:Tok}(h:t.k≠1)(ok:Bool):brK a n t ok=brK a n' t ok:=by
 unfold brK;have:(t.k==1)=false:=bN.2 h;rw[this];rfl
mutual
def Cn:Al→Nat→List (Int×Nat)
 | .mk _ a _ _ _ _ args,d=>(a,d)::Dx args (d+1)
def Dx:List Al→Nat→List (Int×Nat)
 | [],_=>[]
 | x::l,d=>Cn x d++Dx l d
end
mutual
def Cm:Ad→Nat→List (Int×Nat)
 | .mk _ a _ _ _ _ args arms,d=>(a,d)::(Dw args (d+1)++Cu arms (d+1))
def Dw:List Ad→Nat→List (Int×Nat)
 | [],_=>[]
 | x::l,d=>Cm x d++Dw l d
def Cu:List (Al×Ad)→Nat→List (Int×Nat)
 | [],_=>[]
 | x::l,d=>Pk x d++Cu l d
def Pk:Al×Ad→Nat→List (Int×Nat)
 | (p,x),d=>Cn p d++Cm x d
end
mutual
def szP:Al→Nat
 | .mk _ _ _ _ _ _ args=>1+E2 args
def E2:List Al→Nat
 | []=>0
 | x::l=>szP x+E2 l
end
mutual
def szE:Ad→Nat
 | .mk _ _ _ _ _ _ args arms=>1+(Bk args+B1 arms)
def Bk:List Ad→Nat
 | []=>0
 | x::l=>szE x+Bk l
def B1:List (Al×Ad)→Nat
 | []=>0
 | x::l=>szA x+B1 l
def szA:Al×Ad→Nat
 | (p,x)=>szP p+szE x
end
theorem Yo(l m:List Al):E2 (l++m)=E2 l+E2 m:=by
 induction l with
 | nil=>simp[E2]
 | cons x l ih=>simp[E2,ih];omega
theorem Su(l m:List Ad):Bk (l++m)=Bk l+Bk m:=by
 induction l with
 | nil=>simp[Bk]
 | cons x l ih=>simp[Bk,ih];omega
theorem Yl(l m:List (Al×Ad)):B1 (l++m)=B1 l+B1 m:=by
 induction l with
 | nil=>simp[B1]
 | cons x l ih=>simp[B1,ih];omega
theorem O3{l:List Al}{i:Nat}{x:Al}(h:l[i]?=some x):szP x≤E2 l:=by
 induction l generalizing i with
 | nil=>simp at h
 | cons y l ih =>
  cases i with
  | zero=>simp at h;subst h;simp[E2]
  | succ i=>simp at h;have:=ih h;simp[E2];omega
theorem Kd{l:List Ad}{i:Nat}{x:Ad}(h:l[i]?=some x):szE x≤Bk l:=by
 induction l generalizing i with
 | nil=>simp at h
 | cons y l ih =>
  cases i with
  | zero=>simp at h;subst h;simp[Bk]
  | succ i=>simp at h;have:=ih h;simp[Bk];omega
theorem Kc{l:List (Al×Ad)}{i:Nat}{p:Al}{x:Ad}(h:l[i]?=some (p,x)):szP p+szE x≤B1 l:=by
 induction l generalizing i with
 | nil=>simp at h
 | cons y l ih =>
  cases i with
  | zero=>simp at h;subst h;simp[B1,szA]
  | succ i=>simp at h;have:=ih h;simp[B1];omega
theorem Vx(l:List Al):l.length≤E2 l:=by
 induction l with
 | nil=>simp
 | cons x l ih=>cases x;simp[E2,szP];omega
theorem Vw(l:List Ad):l.length≤Bk l:=by
 induction l with
 | nil=>simp
 | cons x l ih=>cases x;simp[Bk,szE];omega
theorem Vv(l:List (Al×Ad)):l.length≤B1 l:=by
 induction l with
 | nil=>simp
 | cons x l ih=>obtain⟨p,x⟩:=x;cases x;cases p;simp[B1,szA,szE,szP];omega
theorem szP_pos(x:Al):0<szP x:=by cases x;simp[szP];omega
theorem Jt{l:List Al}{i:Nat}{x:Al}(h:l[i]?=some x)(d:Nat):Dx (l.drop i) d=Cn x d++Dx (l.drop (i+1)) d:=by
 obtain⟨hi,he⟩:=List.getElem?_eq_some_iff.1 h;rw[List.drop_eq_getElem_cons hi,he];simp[Dx]
theorem Js{l:List Ad}{i:Nat}{x:Ad}(h:l[i]?=some x)(d:Nat):Dw (l.drop i) d=Cm x d++Dw (l.drop (i+1)) d:=by
 obtain⟨hi,he⟩:=List.getElem?_eq_some_iff.1 h;rw[List.drop_eq_getElem_cons hi,he];simp[Dw]
theorem Jr{l:List (Al×Ad)}{i:Nat}{p:Al}{x:Ad}(h:l[i]?=some (p,x))(d:Nat):Cu (l.drop i) d=Cn p d++(Cm x d++Cu (l.drop (i+1)) d):=by
 obtain⟨hi,he⟩:=List.getElem?_eq_some_iff.1 h;rw[List.drop_eq_getElem_cons hi,he];simp[Cu,Pk]
mutual
theorem Sa:∀ (x:Al)(d:Nat),(Cn x d).length=szP x
 | .mk _ _ _ _ _ _ args,d=>by simp[Cn,szP,P3 args (d+1)];omega
theorem P3:∀ (l:List Al)(d:Nat),(Dx l d).length=E2 l
 | [],d=>by simp[Dx,E2]
 | x::l,d=>by simp[Dx,E2,Sa x d,P3 l d]
end
mutual
theorem J7:∀ (x:Ad)(d:Nat),(Cm x d).length=szE x
 | .mk _ _ _ _ _ _ args arms,d=>by simp[Cm,szE,P2 args (d+1),P1 arms (d+1)];omega
theorem P2:∀ (l:List Ad)(d:Nat),(Dw l d).length=Bk l
 | [],d=>by simp[Dw,Bk]
 | x::l,d=>by simp[Dw,Bk,J7 x d,P2 l d]
theorem P1:∀ (l:List (Al×Ad))(d:Nat),(Cu l d).length=B1 l
 | [],d=>by simp[Cu,B1]
 | x::l,d=>by simp[Cu,B1,partsA_len x d,P1 l d]
theorem partsA_len:∀ (x:Al×Ad)(d:Nat),(Pk x d).length=szA x
 | (p,x),d=>by simp[Pk,szA,Sa p d,J7 x d]
end
theorem M2(k a:Int)(nm:LB)(n:Int)(s:LB)(ls:List LB)(args:List Al)(d:Nat):Cn (.mk k a nm n s ls args) d=(a,d)::Dx args (d+1):=by simp[Cn]
theorem M1(k a:Int)(nm:LB)(n:Int)(s:LB)(ls:List LB)(args:List Ad)(arms:List (Al×Ad))(d:Nat):Cm (.mk k a nm n s ls args arms) d=(a,d)::(Dw args (d+1)++Cu arms (d+1)):=by simp[Cm]
def goL{σ:Type}(f:σ→Int×Nat→σ×Bool):σ→List (Int×Nat)→σ×Bool
 | s,[]=>(s,true)
 | s,x::l=>if (f s x).2=true then goL f (f s x).1 l else ((f s x).1,false)
theorem Fm{σ:Type}(f:σ→Int×Nat→σ×Bool)(l m:List (Int×Nat)):∀ s,goL f s (l++m)=if (goL f s l).2=true then goL f (goL f s l).1 m else ((goL f s l).1,false):=by
 induction l with
 | nil=>intro s;simp[goL]
 | cons x l ih =>
  intro s;rw[Lp',goL,goL];split
  ·exact ih _
  ·simp
def Du(most:Int)(s:Int)(_:Int×Nat):Int×Bool:=(s+1,decide (s+1≤most))
def Cb(most:Int)(s:Int×Bool)(p:Int×Nat):(Int×Bool)×Bool:=if (most<(p.2:Int))then ((p.1,true),false)else (s,!s.2)
theorem cnt_go(most:Int)(l:List (Int×Nat)):∀ s,s≤most→goL (Du most) s l=(min (s+l.length) (most+1),decide (s+l.length≤most)):=by
 induction l with
 | nil=>intro s h;simp[goL];omega
 | cons x l ih =>
  intro s h;rw[goL];show(if decide (s+1≤most)=true then goL (Du most) (s+1) l else (s+1,false))=_;by_cases h1:s+1≤most
  ·rw[if_pos (by simpa using h1),ih _ h1];simp only[Lc',Prod.mk.injEq,decide_eq_decide];constructor <;> omega
  ·rw[if_neg (by simpa using h1)];simp only[Lc',Prod.mk.injEq];refine⟨oM,?_⟩
   symm
   rw[decide_eq_false_iff_not];omega
theorem deep_go(most:Int)(l:List (Int×Nat)):∀ a,goL (Cb most) (a,false) l=match l.find? (fun p=>decide (most<(p.2:Int)))with
  | some p=>((p.1,true),false)
  | none=>((a,false),true):=by
 induction l with
 | nil=>intro a;simp[goL]
 | cons x l ih =>
  intro a;rw[goL,List.find?_cons];unfold Cb
  by_cases h:most<(x.2:Int)
  ·simp[h]
  ·simp only[h,if_false,decide_false];exact ih a
theorem U5{most σ:Int}{l:List (Int×Nat)}(h:σ≤most)(h2:(goL (Du most) σ l).2=true):(goL (Du most) σ l).1≤most:=by
 rw[cnt_go most l σ h] at h2 ⊢;simp at h2 ⊢;omega
theorem Ww{most:Int}{σ:Int×Bool}{p:Int×Nat}(h:σ.2=false)(h2:(Cb most σ p).2=true):(Cb most σ p).1.2=false:=by
 unfold Cb at h2 ⊢;split at h2
 ·cases h2
 ·rename_i hn
  rw[if_neg hn];exact h
theorem Qp{most:Int}{σ:Int×Bool}{l:List (Int×Nat)}(h:σ.2=false)(h2:(goL (Cb most) σ l).2=true):(goL (Cb most) σ l).1.2=false:=by
 obtain⟨a,f⟩:=σ;simp only at h;subst h;rw[deep_go] at h2 ⊢;split at h2
 ·cases h2
 ·rfl
def C0:NT→Nat
 | .armsL _ _ x acc=>szE x+B1 acc+2
 | .sumL a=>szE a+1
 | .prodL a=>szE a+1
 | .opL _ _ _ acc=>Bk acc+2
 | .appL a=>szE a+1
 | .postL a=>szE a+1
 | .braces _=>2
 | .recL _ _ args=>Bk args+2
 | _=>0
def I1:PNT→Nat
 | .marked (.mk _ _ _ _ _ _ args)=>E2 args
 | .recL _ _ args=>E2 args+2
 | _=>0
def Wt:Nat→Cmd→Prop
 | b,.retE x=>szE x+1≤b
 | b,.retP x=>szP x+1≤b
 | b,.look k=>∀ t,Wt b (k t true)
 | b,.ahead k=>∀ n,Wt b (k n)
 | b,.adv k=>Wt (b+2) k
 | _,.fail _=>True
 | b,.callE nt k=>∀ x m,szE x+1≤C0 nt+2 * m→Wt (b+2 * m) (k x)
 | b,.callP nt k=>∀ x m,szP x+1≤I1 nt+2 * m→Wt (b+2 * m) (k x)
theorem Eo{p:Prop} [Decidable p] {b:Nat}{c d:Cmd}(h1:p→Wt b c)(h2:¬ p→Wt b d):Wt b (if p then c else d):=by
 split
 ·exact h1 aS
 ·exact h2 aS
theorem wt_mayG{s:LB}{b:Nat}{k:Bool→Cmd}(h1:Wt (b+2) (k true))(h2:Wt b (k false)):Wt b (Ed s k):=fun _=>Eo (fun _=>h1) (fun _=>h2)
theorem Ew{s:LB}{b:Nat}{c d:Cmd}(h1:Wt (b+2) c)(h2:Wt b d):Wt b (Ed s fun b=>if b=true then c else d):=wt_mayG h1 h2
theorem wt_adv{b:Nat}{c:Cmd}(h:Wt (b+2) c):Wt b (.adv c):=h
theorem wt_fail{b:Nat}{c:Cmd}:Wt b (.fail c):=trivial
theorem wt_isI{l:List LB}{b:Nat}{c d:Cmd}(h1:Wt b c)(h2:Wt b d):Wt b (isC l fun b=>if b=true then c else d):=fun t=>by
 show Wt b (if _ then _ else _);exact Eo (fun _=>h1) (fun _=>h2)
theorem Em{s:LB}{b:Nat}{c:Cmd}(h:Wt (b+2) c):Wt b (Ch s c):=fun _=>Eo (fun _=>h) (fun _=>trivial)
theorem L1{b:Nat}{k:LB→Cmd}(h:∀ s,Wt (b+2) (k s)):Wt b (Hq k):=fun _=>Eo (fun _=>h _) (fun _=>trivial)
theorem Ca{x:Ad}{b:Nat}(h:szE x+1≤b):Wt b (.retE x):=h
theorem Fg{x:Al}{b:Nat}(h:szP x+1≤b):Wt b (.retP x):=h
theorem wtP(nt:PNT):Wt (I1 nt) (Dd nt):=by
 cases nt with
 | pat =>
  refine fun t=>Eo (fun _=>fun x m h=>Fg ?_) (fun _=>fun x m h=>Fg ?_)<;> simp only[I1,szP,E2] at * <;> omega
 | patom =>
  refine fun t=>Eo (fun h=>by cases h) (fun _=>Eo (fun _=>Fg ?_) (fun _=>Eo (fun _=>Fg ?_) (fun _=>Eo (fun _=>Fg ?_) (fun _=>Eo (fun _=>Fg ?_) (fun _=>fun x m h=>Fg ?_)))))
  ·split <;> simp[szP,E2,I1]
  all_goals simp only[I1,szP,E2] at * <;> omega
 | marked x =>
  obtain⟨k,a,nm,n,s,ls,args⟩:=x;unfold Dd;refine Ew ?_ (Ew ?_ (Ew ?_ (Ew ?_ (Ew ?_ wt_fail))))
  ·exact fun t=>Eo (fun _=>Eo (fun _=>Fg (by simp only[I1,szP];omega)) (fun _=>Fg (by simp only[I1,szP];omega))) (fun _=>trivial)
  ·exact Fg (by simp only[I1,szP];omega)
  ·exact Fg (by simp only[I1,szP];omega)
  ·exact Ew (Fg (by simp only[I1,szP];omega)) (fun x m h=>Em (Fg (by simp only[I1] at *;omega)))
  ·refine Ew (Fg (by simp only[I1,szP];omega)) (fun t=>Eo (fun _=>fun x m h=>Fg (by simp only[I1] at *;omega)) (fun h=>absurd rfl h))
 | recL a ls args =>
  unfold Dd;refine L1 fun s=>Em fun x m h=>Ew ?_ ?_
  ·exact fun y m2 h2=>Fg (by simp only[I1,Yo,E2] at *;omega)
  ·exact Em (Fg (by simp only[I1,Yo,E2,szP] at *;omega))
theorem wtE(nt:NT):Wt (C0 nt) (body nt):=by
 cases nt with
 | seq=>exact fun x m h t=>Ew (fun y m2 h2=>Ca (by simp only[C0,I7,szE,Bk,B1] at *;omega)) (Ca (by simp only[C0] at *;omega))
 | item =>
  refine fun t=>Ew ?_ (wt_isI (fun x m h=>Ca (by simp only[C0] at *;omega)) (Ew (fun x m h=>Ca (by simp only[C0] at *;omega)) (Ew (fun x m h=>Ca (by simp only[C0] at *;omega)) (Ew ?_ (Ew ?_ ?_)))))
  ·refine wt_mayG ?_ ?_
   ·exact L1 fun s=>Em fun x m h=>Em fun y m2 h2=>Ca (by simp only[if_true,C0,szE,Bk,B1] at *;omega)
   ·exact L1 fun s=>Em fun x m h=>Em fun y m2 h2=>Ca (by
     have h:szE x+1≤C0 .seq+2 * m:=h
     simp only[C0,szE,Bk,B1] at *;omega)
  ·exact fun x m h=>Em fun y m2 h2=>Em fun z m3 h3=>Ca (by simp only[C0,I7,szE,Bk,B1] at *;omega)
  ·exact fun x m h=>Ca (by simp only[C0,I7,szE,Bk,B1] at *;omega)
  ·exact fun x m h t=>Ew (fun y m2 h2=>Ca (by simp only[C0,opE,szE,Bk,B1] at *;omega)) (Ca (by simp only[C0] at *;omega))
 | fn=>exact fun t=>Em (L1 fun s=>Em fun x m h=>Ca (by simp only[C0,szE,Bk,B1] at *;omega))
 | arms k a=>exact fun x m h=>Em fun t=>Eo (fun _=>fun y m2 h2=>Ca (by simp only[C0,B1] at *;omega)) (fun h=>absurd rfl h)
 | armsL k a x acc=>exact fun p m h=>Em fun y m2 h2=>Ew (fun z m3 h3=>Ca (by simp only[C0,I1,Yl,B1,szA] at *;omega)) (Em (Ca (by simp only[C0,I1,Yl,B1,szA,szE,Bk] at *;omega)))
 | or=>exact fun x m h t=>Ew (fun y m2 h2=>Ca (by simp only[C0,I7,szE,Bk,B1] at *;omega)) (Ca (by simp only[C0] at *;omega))
 | and=>exact fun x m h t=>Ew (fun y m2 h2=>Ca (by simp only[C0,I7,szE,Bk,B1] at *;omega)) (Ca (by simp only[C0] at *;omega))
 | cmp=>exact fun x m h t=>Eo (fun _=>fun y m2 h2=>Ca (by simp only[C0,opE,szE,Bk,B1] at *;omega)) (fun _=>Ca (by simp only[C0] at *;omega))
 | sum=>exact fun x m h y m2 h2=>Ca (by simp only[C0] at *;omega)
 | sumL a=>exact fun t=>Eo (fun _=>fun x m h y m2 h2=>Ca (by simp only[C0,opE,szE,Bk,B1] at *;omega)) (fun _=>Ca (by simp only[C0] at *;omega))
 | prod=>exact fun x m h y m2 h2=>Ca (by simp only[C0] at *;omega)
 | prodL a=>exact fun t=>Eo (fun _=>fun x m h y m2 h2=>Ca (by simp only[C0,opE,szE,Bk,B1] at *;omega)) (fun _=>Ca (by simp only[C0] at *;omega))
 | unary=>exact fun t=>Ew (fun x m h=>Ca (by simp only[C0,opE,szE,Bk,B1] at *;omega)) (Ew (fun x m h=>Ca (by simp only[C0,opE,szE,Bk,B1] at *;omega)) (fun x m h=>Ca (by simp only[C0] at *;omega)))
 | app =>
  refine fun t=>Eo (fun _=>fun x m h=>Ca ?_) (fun _=>Eo (fun _=>fun x m h=>Ca ?_) (fun _=>fun x m h y m2 h2=>Ca ?_))<;> simp only[C0,szE,Bk,B1] at * <;> omega
 | opL n a m acc =>
  cases m with
  | zero=>exact Ca (by simp only[C0,opE,szE,B1];omega)
  | succ m=>exact fun x m1 h y m2 h2=>Ca (by simp only[C0,Su,Bk] at *;omega)
 | appL a=>exact fun t=>Eo (fun _=>fun x m h y m2 h2=>Ca (by simp only[C0,I7,szE,Bk,B1] at *;omega)) (fun _=>Ca (by simp only[C0] at *;omega))
 | post=>exact fun t=>Ew (fun x m h=>Ca (by simp only[C0,opE,szE,Bk,B1] at *;omega)) (fun x m h y m2 h2=>Ca (by simp only[C0] at *;omega))
 | postL a=>exact fun t=>Eo (fun _=>wt_adv (L1 fun s=>fun y m2 h2=>Ca (by simp only[C0,szE,Bk,B1] at *;omega))) (fun _=>Ca (by simp only[C0] at *;omega))
 | atom =>
  intro t;refine Eo (fun _=>?_) (fun _=>trivial);show Wt (0+2) _
  repeat refine Eo (fun _=>(by first|exact Ca (by simp only[szE,Bk,B1];omega)| exact fun x m h=>Ca (by simp only[C0] at *;omega))) (fun _=>?_)
  exact Ew (Ca (by simp only[szE,Bk,B1];omega)) (fun x m h=>Em (Ca (by simp only[C0] at *;omega)))
 | braces a =>
  unfold body
  refine Ew (Ca (by simp only[C0,szE,Bk,B1];omega)) (fun n t=>Eo (fun _=>Eo (fun _=>fun x m h=>Ca (by simp only[C0,Bk] at *;omega)) (fun h=>absurd rfl h)) (fun _=>fun x m h=>Em (L1 fun s=>Em fun y m2 h2=>Em (Ca (by simp only[C0,szE,Bk,B1] at *;omega)))))
 | recL a ls args =>
  unfold body;refine L1 fun s=>Em fun x m h=>Ew ?_ ?_
  ·exact fun y m2 h2=>Ca (by simp only[C0,Su,Bk] at *;omega)
  ·exact Em (Ca (by simp only[C0,Su,Bk,szE,B1] at *;omega))
def szR:Rs→Nat
 | .e x=>szE x
 | .p x=>szP x
theorem Run.cost{ts:List Tok}{c:Cmd}{st:St}{r:Rs}{st':St}(h:Run ts c st r st'):∀ {b:Nat},Wt b c→st'.ok=true→szR r+1≤b+2 *(st'.i-st.i):=by
 induction h with
 | retE=>intro b hw _;simp only[Wt] at hw;simp only[szR];omega
 | retP=>intro b hw _;simp only[Wt] at hw;simp only[szR];omega
 | look h hk ih=>intro b hw hok;have:=hk.grows.2 hok;exact ih (by rw[this];exact hw _) hok
 | ahead h hk ih=>intro b hw hok;exact ih (hw _) hok
 | adv hk ih =>
  intro b hw hok;have h1:=ih (b:=b+2) hw hok;have h2:=hk.grows.1;simp only at h1 h2
  omega
 | fail hk ih=>intro b hw hok;have:=hk.grows.2 hok;cases this
 | @callE nt k st x st1 r st' h hk ih1 ih2 =>
  intro b hw hok;have h1:=ih1 (wtE nt) (hk.grows.2 hok)
  exact qq293
 | @callP nt k st x st1 r st' h hk ih1 ih2 =>
  intro b hw hok;have h1:=ih1 (wtP nt) (hk.grows.2 hok);exact qq293
def SL{α:Type}(R:α→α→Prop)(l l':List α):Prop:=l.length=l'.length∧∀ (i:Nat)(x y:α),l[i]?=some x→l'[i]?=some y→R x y
theorem SL.nil_{α:Type}(R:α→α→Prop):SL R [] []:=⟨rfl,fun i x y h=>by simp at h⟩
theorem SL.app{α:Type}{R:α→α→Prop}{l l':List α}{x y:α}(h:SL R l l')(hx:R x y):SL R (l++[x]) (l'++[y]):=by
 refine⟨by simp[h.1],fun i u v hu hv=>?_⟩;rcases Nat.lt_trichotomy i l.length with hlt|heq|hgt
 ·rw[List.getElem?_append_left hlt] at hu;rw[List.getElem?_append_left (by rw[← h.1];exact hlt)] at hv;exact h.2 i u v hu hv
 ·rw[heq,List.getElem?_append_right (Nr' _),Nat.sub_self] at hu;rw[heq,h.1,List.getElem?_append_right (Nr' _),Nat.sub_self] at hv;simp at hu hv;subst hu;subst hv;exact hx
 ·have:(l++[x])[i]?=none:=List.getElem?_eq_none sO;rw[this] at hu;cases hu
theorem SL.one{α:Type}{R:α→α→Prop}{x y:α}(hx:R x y):SL R [x] [y]:=SL.app (SL.nil_ R) hx
theorem SL.two{α:Type}{R:α→α→Prop}{x y x2 y2:α}(hx:R x y)(h2:R x2 y2):SL R [x,x2] [y,y2]:=SL.app (SL.one hx) h2
theorem SL.three{α:Type}{R:α→α→Prop}{x y x2 y2 x3 y3:α}(hx:R x y)(h2:R x2 y2)(h3:R x3 y3):SL R [x,x2,x3] [y,y2,y3]:=SL.app (SL.two hx h2) h3
inductive Fu:Al→Al→Prop
 | mk {k a a' nm n s ls args args'} (hl:args.length=args'.length) (h:∀ (i:Nat) (x y:Al),args[i]?=some x→args'[i]?=some y→Fu x y):Fu (.mk k a nm n s ls args) (.mk k a' nm n s ls args')
inductive Ds:Ad→Ad→Prop
 | mk {k a a' nm n s ls args args' arms arms'} (hl:args.length=args'.length) (h:∀ (i:Nat) (x y:Ad),args[i]?=some x→args'[i]?=some y→Ds x y)
   (hl2:arms.length=arms'.length) (hp:∀ (i:Nat) (p p':Al) (x y:Ad),arms[i]?=some (p,x)→arms'[i]?=some (p',y)→Fu p p')
   (hx:∀ (i:Nat) (p p':Al) (x y:Ad),arms[i]?=some (p,x)→arms'[i]?=some (p',y)→Ds x y):Ds (.mk k a nm n s ls args arms) (.mk k a' nm n s ls args' arms')
def SameA(p q:Al×Ad):Prop:=Fu p.1 q.1∧Ds p.2 q.2
theorem sP{k a a':Int}{nm:LB}{n:Int}{s:LB}{ls:List LB}{args args':List Al}(h:SL Fu args args'):Fu (.mk k a nm n s ls args) (.mk k a' nm n s ls args'):=.mk h.1 h.2
theorem sE{k a a':Int}{nm:LB}{n:Int}{s:LB}{ls:List LB}{args args':List Ad}{arms arms':List (Al×Ad)}(h:SL Ds args args')(hm:SL SameA arms arms'):Ds (.mk k a nm n s ls args arms) (.mk k a' nm n s ls args' arms'):=
 .mk h.1 h.2 hm.1 (fun i _p _p' _x _y h1 h2=>(hm.2 i _ _ h1 h2).1) (fun i _p _p' _x _y h1 h2=>(hm.2 i _ _ h1 h2).2)
theorem sE0{k a a':Int}{nm:LB}{n:Int}{s:LB}{ls:List LB}{args args':List Ad}(h:SL Ds args args'):Ds (.mk k a nm n s ls args []) (.mk k a' nm n s ls args' []):=sE h (SL.nil_ _)
theorem sEl{k a a':Int}{nm:LB}{n:Int}{s:LB}:Ds (.mk k a nm n s [] [] []) (.mk k a' nm n s [] [] []):=sE0 (SL.nil_ _)
theorem sPl{k a a':Int}{nm:LB}{n:Int}{s:LB}:Fu (.mk k a nm n s [] []) (.mk k a' nm n s [] []):=sP (SL.nil_ _)
inductive PNR:PNT→PNT→Prop
 | pat:PNR .pat .pat
 | patom:PNR .patom .patom
 | marked {x y} (h:Fu x y):PNR (.marked x) (.marked y)
 | recL {a a' ls args args'} (h:SL Fu args args'):PNR (.recL a ls args) (.recL a' ls args')
inductive NR:NT→NT→Prop
 | seq:NR .seq .seq
 | item:NR .item .item
 | fn:NR .fn .fn
 | arms {k a a'}:NR (.arms k a) (.arms k a')
 | armsL {k a a' x y acc acc'} (hx:Ds x y) (h:SL SameA acc acc'):NR (.armsL k a x acc) (.armsL k a' y acc')
 | or:NR .or .or
 | and:NR .and .and
 | cmp:NR .cmp .cmp
 | sum:NR .sum .sum
 | sumL {x y} (h:Ds x y):NR (.sumL x) (.sumL y)
 | prod:NR .prod .prod
 | prodL {x y} (h:Ds x y):NR (.prodL x) (.prodL y)
 | unary:NR .unary .unary
 | app:NR .app .app
 | opL {n a a' m acc acc'} (h:SL Ds acc acc'):NR (.opL n a m acc) (.opL n a' m acc')
 | appL {x y} (h:Ds x y):NR (.appL x) (.appL y)
 | post:NR .post .post
 | postL {x y} (h:Ds x y):NR (.postL x) (.postL y)
 | atom:NR .atom .atom
 | braces {a a'}:NR (.braces a) (.braces a')
 | recL {a a' ls args args'} (h:SL Ds args args'):NR (.recL a ls args) (.recL a' ls args')
def Ec(t:Tok)(c:Cmd):Prop:=∀ (ts:List Tok)(i:Nat)(ok:Bool)(r:Rs)(st':St),ts[i]?=some t→Run ts c ⟨i,ok⟩ r st'→st'.ok=false
inductive CR:Cmd→Cmd→Prop
 | retE {x y} (h:Ds x y):CR (.retE x) (.retE y)
 | retP {x y} (h:Fu x y):CR (.retP x) (.retP y)
 | look {k k'} (h:∀ (q:Int) (a a':Nat) (tx:LB) (n:Int) (ok:Bool),CR (k ⟨q,a,tx,n⟩ ok) (k' ⟨q,a',tx,n⟩ ok))
   (h2:∀ (a a':Nat) (tx:LB) (n n':Int) (ok:Bool),¬ Ec ⟨0,a,tx,n⟩ (k ⟨0,a,tx,n⟩ ok)→CR (k ⟨0,a,tx,n⟩ ok) (k' ⟨7,a',[41],n'⟩ ok)):CR (.look k) (.look k')
 | ahead {a a'} (h:∀ n n',(n.k==7&&n.text==[61])=(n'.k==7&&n'.text==[61])→CR (.look (brK a n)) (.look (brK a' n'))):CR (.ahead fun n => .look (brK a n)) (.ahead fun n => .look (brK a' n))
 | adv {c c'} (h:CR c c'):CR (.adv c) (.adv c')
 | fail {c c'} (h:CR c c'):CR (.fail c) (.fail c')
 | callE {nt nt' k k'} (hn:NR nt nt') (h:∀ x y,Ds x y→CR (k x) (k' y)):CR (.callE nt k) (.callE nt' k')
 | callP {nt nt' k k'} (hn:PNR nt nt') (h:∀ x y,Fu x y→CR (k x) (k' y)):CR (.callP nt k) (.callP nt' k')
theorem CR.ite{p:Prop} [Decidable p] {c d c' d':Cmd}(h1:p→CR c c')(h2:¬ p→CR d d'):CR (if p then c else d) (if p then c' else d'):=by
 split
 ·exact h1 aS
 ·exact h2 aS
theorem Ib(a:Nat)(tx:LB)(n:Int)(ok:Bool)(l:List LB):isB ⟨0,a,tx,n⟩ ok l=false:=by cases ok <;> rfl
theorem Jy(a:Nat)(n:Int)(ok:Bool)(l:List LB)(hl:l.contains [41]=false):isB ⟨7,a,[41],n⟩ ok l=false:=by
 show(ok&&true&&l.contains [41])=false;rw[hl];cases ok <;> rfl
theorem nameB_end(a:Nat)(tx:LB)(n:Int)(ok:Bool):Nq ⟨0,a,tx,n⟩ ok=false:=by cases ok <;> rfl
theorem CR.may{s:LB}{k k':Bool→Cmd}(hs:[s].contains [41]=false)(h:∀ b,CR (k b) (k' b)):CR (Ed s k) (Ed s k'):=by
 refine .look (fun q a a' tx n ok=>?_) (fun a a' tx n n' ok _=>?_)
 ·exact CR.ite (fun _ => .adv (h true)) (fun _=>h false)
 ·rw[Ib,Jy _ _ _ _ hs,if_neg dC,if_neg dC];exact h false
theorem Ec.fail{t:Tok}{c:Cmd}:Ec t (.fail c):=by
 intro ts i ok r st' ht h
 cases h with
 | fail hk =>
  have:=hk.grows.2
  cases hok:st'.ok with
  | false=>rfl
  | true=>have:=this hok;cases this
theorem Ec.callE{t:Tok}{nt:NT}{k:Ad→Cmd}(h:Ec t (body nt)):Ec t (.callE nt k):=by
 intro ts i ok r st' ht hr
 cases hr with
 | callE h1 hk =>
  exact qq267
theorem Ec.callP{t:Tok}{nt:PNT}{k:Al→Cmd}(h:Ec t (Dd nt)):Ec t (.callP nt k):=by
 intro ts i ok r st' ht hr
 cases hr with
 | callP h1 hk =>
  exact qq267
theorem Ec.look{t:Tok}{k:Tok→Bool→Cmd}(h:∀ ok,Ec t (k t ok)):Ec t (.look k):=by
 intro ts i ok r st' ht hr
 cases hr with
 | look h1 hk=>rw[ht] at h1;cases h1;exact h _ _ _ _ _ _ ht hk
section
variable {a:Nat} {tx:LB} {n:Int}
theorem Ec.may{s:LB}{k:Bool→Cmd}(h:Ec ⟨0,a,tx,n⟩ (k false)):Ec ⟨0,a,tx,n⟩ (Ed s k):=.look fun ok=>by
 rw[Ib,if_neg dC];exact h
theorem Ec.is{l:List LB}{k:Bool→Cmd}(h:Ec ⟨0,a,tx,n⟩ (k false)):Ec ⟨0,a,tx,n⟩ (isC l k):=.look fun ok=>by
 rw[Ib];exact h
theorem dead_atom:Ec ⟨0,a,tx,n⟩ (body .atom):=.look fun ok=>by
 have:Di ⟨0,a,tx,n⟩ ok=false:=by cases ok <;> rfl
 rw[this,if_neg sM];exact .fail
theorem dead_post:Ec ⟨0,a,tx,n⟩ (body .post):=.look fun ok => .may (by rw[if_neg dC];exact .callE dead_atom)
theorem dead_app:Ec ⟨0,a,tx,n⟩ (body .app):=.look fun ok=>by
 rw[if_neg sM,if_neg sM];exact .callE dead_post
theorem Zh:Ec ⟨0,a,tx,n⟩ (body .unary):=.look fun ok => .may (by rw[if_neg dC];exact .may (by rw[if_neg dC];exact .callE dead_app))
theorem dead_prod:Ec ⟨0,a,tx,n⟩ (body .prod):=.callE Zh
theorem dead_sum:Ec ⟨0,a,tx,n⟩ (body .sum):=.callE dead_prod
theorem dead_cmp:Ec ⟨0,a,tx,n⟩ (body .cmp):=.callE dead_sum
theorem dead_and:Ec ⟨0,a,tx,n⟩ (body .and):=.callE dead_cmp
theorem dead_or:Ec ⟨0,a,tx,n⟩ (body .or):=.callE dead_and
theorem dead_item:Ec ⟨0,a,tx,n⟩ (body .item):=by
 refine .look fun ok => .may ?_
 rw[if_neg dC];refine .is ?_;rw[if_neg dC];refine .may ?_;rw[if_neg dC];refine .may ?_;rw[if_neg dC];refine .may ?_;rw[if_neg dC];refine .may ?_;rw[if_neg dC];exact .callE dead_or
theorem Wv:Ec ⟨0,a,tx,n⟩ (body .seq):=.callE dead_item
theorem Wu(x:Al):Ec ⟨0,a,tx,n⟩ (Dd (.marked x)):=by
 obtain⟨k,a',nm,n',s,ls,args⟩:=x;unfold Dd;refine .may ?_;rw[if_neg dC];refine .may ?_;rw[if_neg dC];refine .may ?_;rw[if_neg dC];refine .may ?_;rw[if_neg dC];refine .may ?_;rw[if_neg dC];exact .fail
theorem Zf{ts:List Tok}{c:Cmd}{i:Nat}{r:Rs}{st':St}(h:Run ts c ⟨i,false⟩ r st'):st'.ok=false:=by
 cases hok:st'.ok with
 | false=>rfl
 | true=>have:=h.grows.2 hok;cases this
theorem Zg:Ec ⟨0,a,tx,n⟩ (Dd .patom):=by
 intro ts i ok r st' ht hr
 cases ok with
 | false=>exact Zf hr
 | true =>
  cases hr with
  | look h1 hk =>
   have h1:ts[i]?=_:=h1;rw[ht] at h1;cases h1;simp only[] at hk;rw[if_neg dC,if_neg dC,if_neg dC,if_neg dC,if_neg dC] at hk;exact(Ec.callP (Wu _)) _ _ _ _ _ ht hk
theorem dead_pat:Ec ⟨0,a,tx,n⟩ (Dd .pat):=.look fun ok=>by
 rw[if_neg sM];exact .callP Zg
theorem Ec.must{s:LB}{c:Cmd}:Ec ⟨0,a,tx,n⟩ (Ch s c):=.look fun ok=>by
 rw[Ib,if_neg dC];exact .fail
end
theorem CR.close{k k':Bool→Cmd}(h:∀ b,CR (k b) (k' b))(hd:∀ a tx n,Ec ⟨0,a,tx,n⟩ (k false)):CR (Ed [41] k) (Ed [41] k'):=by
 refine .look (fun q a a' tx n ok=>?_) (fun a a' tx n n' ok hnd=>absurd ?_ hnd)
 ·exact CR.ite (fun _ => .adv (h true)) (fun _=>h false)
 ·rw[Ib,if_neg dC];exact hd _ _ _
theorem CR.must{s:LB}{c c':Cmd}(h:CR c c'):CR (Ch s c) (Ch s c'):=by
 refine .look (fun q a a' tx n ok=>?_) (fun a a' tx n n' ok hnd=>absurd ?_ hnd)
 ·exact CR.ite (fun _ => .adv h) (fun _ => .fail h)
 ·rw[Ib,if_neg dC];exact .fail
theorem CR.name{k k':LB→Cmd}(h:∀ s,CR (k s) (k' s)):CR (Hq k) (Hq k'):=by
 refine .look (fun q a a' tx n ok=>?_) (fun a a' tx n n' ok hnd=>absurd ?_ hnd)
 ·exact CR.ite (fun _ => .adv (h _)) (fun _ => .fail (h _))
 ·rw[nameB_end,if_neg dC];exact .fail
theorem CR.is{l:List LB}{k k':Bool→Cmd}(hl:l.contains [41]=false)(h:∀ b,CR (k b) (k' b)):CR (isC l k) (isC l k'):=by
 refine .look (fun q a a' tx n ok=>?_) (fun a a' tx n n' ok _=>?_)
 ·exact h _
 ·rw[Ib,Jy _ _ _ _ hl];exact h _
theorem CR.see{k k':Tok→Bool→Cmd}(h:∀ t t' ok,CR (k t ok) (k' t' ok)):CR (.look k) (.look k'):=.look (fun _q _a _a' _tx _n _ok=>h _ _ _) (fun _a _a' _tx _n _n' _ok _=>h _ _ _)
theorem crP{nt nt':PNT}(h:PNR nt nt'):CR (Dd nt) (Dd nt'):=by
 cases h with
 | pat =>
  refine .look (fun q a a' tx n ok=>?_) (fun a a' tx n n' ok _=>?_)
  ·exact .ite (fun _ => .adv (.callP .patom fun x y h => .retP (sP (SL.one h)))) (fun _ => .callP .patom fun x y h => .retP h)
  ·rw[if_neg sM,if_neg sM]
   exact .callP .patom fun x y h => .retP h
 | patom =>
  refine .look (fun q a a' tx n ok=>?_) (fun a a' tx n n' ok _=>?_)
  ·refine .ite (fun _ => .retP sPl) (fun _ => .ite (fun _ => .adv ?_) (fun _ => .ite (fun _ => .adv (.retP sPl)) (fun _ => .ite (fun _ => .adv (.retP sPl)) (fun _ => .ite (fun _ => .adv (.retP sPl)) (fun _ => .callP (.marked sPl) fun x y h => .retP h)))));refine .retP ?_;show Fu (if _ then _ else _) (if _ then _ else _);split <;> exact sPl
  ·refine .ite (fun _ => .retP sPl) (fun _=>?_);rw[if_neg sM,if_neg sM,if_neg sM,if_neg sM,if_neg sM,if_neg sM,if_neg sM,if_neg sM]
   exact .callP (.marked sPl) fun x y h => .retP h
 | marked h =>
  cases h with
  | mk hl h =>
   have hh:=SL.two (R:=Fu) (x:=.zero) (y:=.zero) (x2:=.zero) (y2:=.zero) sPl sPl;unfold Dd;refine .may rfl fun b => .ite (fun _=>?_) (fun _ => .may rfl fun b => .ite (fun _ => .retP (.mk hl h)) (fun _ => .may rfl fun b => .ite (fun _ => .retP (.mk hl h)) (fun _ => .may rfl fun b => .ite (fun _=>?_) (fun _ => .may rfl fun b => .ite (fun _=>?_) (fun _ => .fail (.retP (.mk hl h)))))))
   ·refine .look (fun q a a' tx n ok=>?_) (fun a a' tx n n' ok _=>?_)
    ·exact .ite (fun _ => .ite (fun _ => .adv (.retP (.mk hl h))) (fun _ => .retP (.mk hl h))) (fun _ => .fail (.retP (.mk hl h)))
    ·rw[if_neg sM,if_neg sM];exact .fail (.retP (.mk hl h))
   ·exact .close (fun b => .ite (fun _ => .retP (.mk hl h)) (fun _ => .callP .pat fun x y h => .must (.retP h))) (fun a tx n=>by rw[if_neg dC];exact .callP dead_pat)
   ·exact .may rfl fun b => .ite (fun _ => .retP (.mk hl h)) (fun _ => .see fun t t' ok => .ite (fun _ => .callP (.recL ⟨hl,h⟩) fun x y h => .retP h) (fun _ => .must (.retP (.mk hl h))))
 | recL h =>
  unfold Dd;exact .name fun s => .must (.callP .pat fun x y hx => .may rfl fun b => .ite (fun _ => .callP (.recL (h.app hx)) fun x y h => .retP h) (fun _ => .must (.retP (sP (h.app hx)))))
theorem cr_brK(a a':Int)(n n':Tok)(hn:(n.k==7&&n.text==[61])=(n'.k==7&&n'.text==[61])):CR (.look (brK a n)) (.look (brK a' n')):=by
 have hb:∀ (c c':Bool),c=c'→CR (if c=true then (.callE (.recL a [] []) .retE)else Ch [125] (.retE (.mk 12 a [] 0 [] [] [] []))) (if c'=true then (.callE (.recL a' [] []) .retE)else Ch [125] (.retE (.mk 12 a' [] 0 [] [] [] []))):=by
  intro c c' e;subst e;exact .ite (fun _ => .callE (.recL (SL.nil_ _)) fun x y h => .retE h) (fun _ => .must (.retE sEl))
 have he:CR (.callE .seq fun x=>Ch [119,105,116,104] (Hq fun nm=>Ch [61] (.callE .seq fun y=>Ch [125] (.retE (.mk 13 a nm 0 [] [] [x,y] [])))))
   (.callE .seq fun x=>Ch [119,105,116,104] (Hq fun nm=>Ch [61] (.callE .seq fun y=>Ch [125] (.retE (.mk 13 a' nm 0 [] [] [x,y] []))))):=
  .callE .seq fun x y h => .must (.name fun s => .must (.callE .seq fun x2 y2 h2 => .must (.retE (sE0 (SL.two h h2)))))
 refine .look (fun q a0 a1 tx n0 ok=>?_) (fun a0 a1 tx n0 n1 ok _=>?_)
 ·unfold brK;rw[hn];exact .ite (fun _=>hb _ _ rfl) (fun _=>he)
 ·unfold brK;rw[if_neg sM,if_neg sM];exact he
theorem crE{nt nt':NT}(h:NR nt nt'):CR (body nt) (body nt'):=by
 cases h with
 | seq=>exact .callE .item fun x y h => .see fun t t' ok => .may rfl fun b => .ite (fun _ => .callE .seq fun x2 y2 h2 => .retE (sE0 (SL.two h h2))) (fun _ => .retE h)
 | item =>
  refine .see fun t t' ok => .may rfl fun b => .ite (fun _=>?_) (fun _ => .is rfl fun b => .ite (fun _ => .callE .fn fun x y h => .retE h) (fun _ => .may rfl fun b => .ite (fun _ => .callE .arms fun x y h => .retE h) (fun _ => .may rfl fun b => .ite (fun _ => .callE .arms fun x y h => .retE h) (fun _ => .may rfl fun b => .ite (fun _=>?_) (fun _ => .may rfl fun b => .ite (fun _ => .callE .post fun x y h => .retE (sE0 (SL.one h))) (fun _=>?_))))))
  ·refine .may rfl fun r => .name fun s => .must (.callE ?_ fun x y h => .must (.callE .seq fun x2 y2 h2 => .retE (sE0 (SL.two h h2))))
   cases r
   ·exact .seq
   ·exact .fn
  ·exact .callE .seq fun x y h => .must (.callE .item fun x2 y2 h2 => .must (.callE .item fun x3 y3 h3 => .retE (sE0 (SL.three h h2 h3))))
  ·exact .callE .or fun x y h => .see fun t t' ok => .may rfl fun b => .ite (fun _ => .callE .item fun x2 y2 h2 => .retE (sE0 (SL.two h h2))) (fun _ => .retE h)
 | fn=>exact .see fun t t' ok => .must (.name fun s => .must (.callE .seq fun x y h => .retE (sE0 (SL.one h))))
 | arms=>exact .callE .seq fun x y h => .must (.see fun t t' ok => .ite (fun _ => .callE (.armsL h (SL.nil_ _)) fun x y h => .retE h) (fun _ => .must (.retE (sE0 (SL.one h)))))
 | armsL hx h=>exact .callP .pat fun p q hp => .must (.callE .seq fun x y h2 => .may rfl fun b => .ite (fun _ => .callE (.armsL hx (h.app ⟨hp,h2⟩)) fun x y h => .retE h) (fun _ => .must (.retE (sE (SL.one hx) (h.app ⟨hp,h2⟩)))))
 | or=>exact .callE .and fun x y h => .see fun t t' ok => .may rfl fun b => .ite (fun _ => .callE .or fun x2 y2 h2 => .retE (sE0 (SL.two h h2))) (fun _ => .retE h)
 | and=>exact .callE .cmp fun x y h => .see fun t t' ok => .may rfl fun b => .ite (fun _ => .callE .and fun x2 y2 h2 => .retE (sE0 (SL.two h h2))) (fun _ => .retE h)
 | cmp =>
  refine .callE .sum fun x y h => .look (fun q a a' tx n ok=>?_) (fun a a' tx n n' ok _=>?_)
  ·exact .ite (fun _ => .adv (.callE .sum fun x2 y2 h2 => .retE (sE0 (SL.two h h2)))) (fun _ => .retE h)
  ·exact qq201
 | sum=>exact .callE .prod fun x y h => .callE (.sumL h) fun x y h => .retE h
 | sumL h =>
  refine .look (fun q a a' tx n ok=>?_) (fun a a' tx n n' ok _=>?_)
  ·exact .ite (fun _ => .adv (.callE .prod fun x2 y2 h2 => .callE (.sumL (sE0 (SL.two h h2))) fun x y h => .retE h)) (fun _ => .retE h)
  ·exact qq201
 | prod=>exact .callE .unary fun x y h => .callE (.prodL h) fun x y h => .retE h
 | prodL h =>
  refine .look (fun q a a' tx n ok=>?_) (fun a a' tx n n' ok _=>?_)
  ·exact .ite (fun _ => .adv (.callE .unary fun x2 y2 h2 => .callE (.prodL (sE0 (SL.two h h2))) fun x y h => .retE h)) (fun _ => .retE h)
  ·exact qq201
 | unary=>exact .see fun t t' ok => .may rfl fun b => .ite (fun _ => .callE .unary fun x y h => .retE (sE0 (SL.one h))) (fun _ => .may rfl fun b => .ite (fun _ => .callE .unary fun x y h => .retE (sE0 (SL.one h))) (fun _ => .callE .app fun x y h => .retE h))
 | app =>
  refine .look (fun q a a' tx n ok=>?_) (fun a a' tx n n' ok _=>?_)
  ·exact .ite (fun _ => .adv (.callE .post fun x y h => .retE (sE0 (SL.one h)))) (fun _ => .ite (fun _ => .adv (.callE (.opL (SL.nil_ _)) fun x y h => .retE h)) (fun _ => .callE .post fun x y h => .callE (.appL h) fun x y h => .retE h))
  ·rw[if_neg sM,if_neg sM,if_neg sM,if_neg sM]
   exact .callE .post fun x y h => .callE (.appL h) fun x y h => .retE h
 | @opL n a a' m acc acc' h =>
  cases m with
  | zero=>exact .retE (sE0 h)
  | succ m=>exact .callE .post fun x y hx => .callE (.opL (h.app hx)) fun x y h => .retE h
 | appL h =>
  refine .look (fun q a a' tx n ok=>?_) (fun a a' tx n n' ok _=>?_)
  ·exact .ite (fun _ => .callE .post fun x2 y2 h2 => .callE (.appL (sE0 (SL.two h h2))) fun x y h => .retE h) (fun _ => .retE h)
  ·have e1:Di ⟨0,a,tx,n⟩ ok=false:=by cases ok <;> rfl
   have e2:Di ⟨7,a',[41],n'⟩ ok=false:=by cases ok <;> rfl
   rw[e1,e2,if_neg dC,if_neg dC]
   exact .retE h
 | post=>exact .see fun t t' ok => .may rfl fun b => .ite (fun _ => .callE .post fun x y h => .retE (sE0 (SL.one h))) (fun _ => .callE .atom fun x y h => .callE (.postL h) fun x y h => .retE h)
 | postL h =>
  refine .look (fun q a a' tx n ok=>?_) (fun a a' tx n n' ok _=>?_)
  ·exact .ite (fun _ => .adv (.name fun s => .callE (.postL (sE0 (SL.one h))) fun x y h => .retE h)) (fun _ => .retE h)
  ·exact qq201
 | atom =>
  refine .look (fun q a a' tx n ok=>?_) (fun a a' tx n n' ok _=>?_)
  ·refine .ite (fun _ => .adv ?_) (fun _ => .fail (.retE sEl));refine .ite (fun _ => .retE sEl) (fun _ => .ite (fun _ => .retE sEl) (fun _ => .ite (fun _ => .retE sEl) (fun _ => .ite (fun _ => .retE sEl) (fun _ => .ite (fun _ => .retE sEl) (fun _ => .ite (fun _ => .retE sEl) (fun _ => .ite (fun _ => .callE .braces fun x y h => .retE h) (fun _=>?_)))))));exact .close (fun b => .ite (fun _ => .retE sEl) (fun _ => .callE .seq fun x y h => .must (.retE h))) (fun a tx n=>by rw[if_neg dC];exact .callE Wv)
  ·have e1:Di ⟨0,a,tx,n⟩ ok=false:=by cases ok <;> rfl
   have e2:Di ⟨7,a',[41],n'⟩ ok=false:=by cases ok <;> rfl
   rw[e1,e2,if_neg sM,if_neg sM]
   exact .fail (.retE sEl)
 | @braces a a' =>
  unfold body
  exact .may rfl fun b => .ite (fun _ => .retE sEl) (fun _ => .ahead (fun n n' hn=>cr_brK a a' n n' hn))
 | recL h =>
  unfold body;exact .name fun s => .must (.callE .seq fun x y hx => .may rfl fun b => .ite (fun _ => .callE (.recL (h.app hx)) fun x y h => .retE h) (fun _ => .must (.retE (sE0 (h.app hx)))))
inductive RsR:Rs→Rs→Prop
 | e {x y} (h:Ds x y):RsR (.e x) (.e y)
 | p {x y} (h:Fu x y):RsR (.p x) (.p y)
theorem Run.sim{ts ts2:List Tok}{d:Nat}{strict:Prop}(hE:Nl ts)(hE2:Nl ts2)
  (hT:∀ (j:Nat) (q:Int) (a:Nat) (tx:LB) (n:Int),ts[j]?=some ⟨q,a,tx,n⟩→(∃ a',ts2[j+d]?=some ⟨q,a',tx,n⟩)∨(strict∧q=0∧∃ a' n',ts2[j+d]?=some ⟨7,a',[41],n'⟩))
  {c:Cmd} {st:St} {r:Rs} {st':St} (h:Run ts c st r st'):∀ {c2:Cmd},CR c c2→(strict→st'.ok=true)→∃ r2,RsR r r2∧Run ts2 c2 ⟨st.i+d,st.ok⟩ r2 ⟨st'.i+d,st'.ok⟩:=by
 induction h with
 | retE=>intro c2 hc _;cases hc with|retE h=>exact⟨_,.e h,.retE⟩
 | retP=>intro c2 hc _;cases hc with|retP h=>exact⟨_,.p h,.retP⟩
 | @look k t st r st' h hk ih =>
  intro c2 hc hok;obtain⟨q,a,tx,n⟩:=t
  cases hc with
  | look h1 h2 =>
   rcases hT _ _ _ _ _ h with⟨a',ht⟩| ⟨hs,rfl,a',n',ht⟩
   ·obtain⟨r2,e,hr⟩:=ih (h1 q a a' tx n _) hok;exact⟨r2,e,.look ht hr⟩
   ·by_cases hd:Ec ⟨0,a,tx,n⟩ (k ⟨0,a,tx,n⟩ st.ok)
    ·have h3:=hd _ _ _ _ _ h hk;rw[hok hs] at h3;cases h3
    ·obtain⟨r2,e,hr⟩:=ih (h2 a a' tx n n' st.ok hd) hok
     exact⟨r2,e,.look ht hr⟩
 | @ahead k n st r st' h hk ih =>
  intro c2 hc hok
  cases hc with
  | @ahead a a' hn =>
   have key:∃ n',Lo ts2 (st.i+d)=some n':=by
    unfold Lo
    cases hk with
    | @look _ t _ _ _ ht hk =>
     obtain⟨q,b,tx,m⟩:=t
     have hl:ts2.length≠0:=by
      rcases hT _ _ _ _ _ ht with⟨b',h'⟩| ⟨_,_,b',n',h'⟩<;>(intro e;rw[List.length_eq_zero_iff.1 e] at h';simp at h')
     exact⟨_,Lg' oM⟩
   obtain⟨n',hn'⟩:=key
   cases hk2:hk with
   | @look _ t _ _ _ ht hk3 =>
    obtain⟨q,b,tx,m⟩:=t;by_cases hq:q=1
    ·subst hq;rw[Pb hE ht sM] at h
     obtain⟨b',ht'⟩:∃ b',ts2[st.i+d]?=some ⟨1,b',tx,m⟩:=by
      rcases hT _ _ _ _ _ ht with h' | ⟨_,h',_⟩
      ·exact h'
      ·cases h'
     rw[Pb hE2 ht' sM] at hn'
     have hcond:(n.k==7&&n.text==[61])=(n'.k==7&&n'.text==[61]):=by
      obtain⟨q,b2,tx2,m2⟩:=n
      rcases hT _ _ _ _ _ h with⟨b3,h'⟩| ⟨_,rfl,b3,m3,h'⟩
      ·rw[show st.i+1+d=st.i+d+1 by omega,hn'] at h';cases h';rfl
      ·rw[show st.i+1+d=st.i+d+1 by omega,hn'] at h';cases h';rfl
     obtain⟨r2,e,hr⟩:=ih (hn n n' hcond) hok;exact⟨r2,e,.ahead (by simp only;rw[Pb hE2 ht' sM];exact hn') hr⟩
    ·obtain⟨r2,e,hr⟩:=ih (hn n n rfl) hok;refine⟨r2,e,.ahead hn' ?_⟩
     cases hr with
     | look ht' hk' =>
      refine .look ht' ?_
      rename_i t'
      have:t'.k≠1:=by
       rcases hT _ _ _ _ _ ht with⟨b',h'⟩| ⟨_,_,b',n2,h'⟩
       ·rw[show ts2[st.i+d]?=some t' from ht'] at h';cases h';exact hq
       ·rw[show ts2[st.i+d]?=some t' from ht'] at h';cases h';simp
      rw[brK_eq this (n':=n)]
      exact hk'
 | adv hk ih =>
  intro c2 hc hok
  cases hc with
  | adv hc =>
   obtain⟨r2,e,hr⟩:=ih hc hok;refine⟨r2,e,.adv ?_⟩;simp only at hr ⊢;rw[Nat.add_right_comm]
   exact hr
 | fail hk ih =>
  intro c2 hc hok
  cases hc with
  | fail hc =>
   obtain⟨r2,e,hr⟩:=ih hc hok
   exact⟨r2,e,.fail hr⟩
 | @callE nt k st x st1 r st' h hk ih1 ih2 =>
  intro c2 hc hok
  cases hc with
  | callE hn hc =>
   obtain⟨r1,e1,hr1⟩:=ih1 (crE hn) (fun hs=>hk.grows.2 (hok hs))
   cases e1 with
   | e hx =>
    obtain⟨r2,e2,hr2⟩:=ih2 (hc _ _ hx) hok
    exact⟨r2,e2,.callE hr1 hr2⟩
 | @callP nt k st x st1 r st' h hk ih1 ih2 =>
  intro c2 hc hok
  cases hc with
  | callP hn hc =>
   obtain⟨r1,e1,hr1⟩:=ih1 (crP hn) (fun hs=>hk.grows.2 (hok hs))
   cases e1 with
   | p hx =>
    obtain⟨r2,e2,hr2⟩:=ih2 (hc _ _ hx) hok;exact⟨r2,e2,.callP hr1 hr2⟩
theorem We(n:Int)(h0:-9223372036854775808≤n)(h1:n≤9223372036854775807)(w:World)(hE:Env w):
  Calls prog 85 #[vI n] w fun e w'=>e = .returned (.string ⟨(Lib.itoa n).toArray⟩)∧Fr [] w w':=by
 have ht:=hE.tab;go_enter func85,ntmps85;go_wp2_with (go_at_call 113;refine(Tryz.strconv_FormatInt_10 n h0 h1 _ ht).mono ?_);rintro e w1 ⟨rfl,hw⟩;have hf:=Fr.of_grow hw;clear hw
 go_wp2
 go_ret;exact⟨rfl,hf⟩
end Go.Proofs.YtlafbbnikgcdlaaGreatDoor
