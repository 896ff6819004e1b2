/- A part of the proof: Hh, Hj, Hm, Ob, Nx10, Nx21, Vt, Vu. -/
import Derived.Defers
import Derived.Recover
import Derived.Laws.Pointers
import Derived.Test.YtlafbbnikgcdlaaGreatDoorKb12
import Derived.Test.YtlafbbnikgcdlaaGreatDoorKb19
import Derived.Test.YtlafbbnikgcdlaaGreatDoorKb20
namespace Go.Proofs.YtlafbbnikgcdlaaGreatDoor
open Go.RowKit
open _root_.Go.Proofs.Tryz
set_option linter.all false
set_option maxHeartbeats 16000000
set_option maxRecDepth 100000
variable{p:Prop}
open List renaming length_append→La',cons_append→Lp'
open Nat renaming le_refl→Nr'
open Bool renaming and_eq_true→Ba'
def TG(t:Tok):Prop:=(t.k=1→Aw t.text=true)∧(t.k=2∨t.k=3→Eg t.text=true)∧(t.k=4→0≤t.n∧t.n≤Ff)
theorem Ye(l:LB):(Cy l).all Dh=true:=List.all_eq_true.2 fun x hx=>by
 unfold Cy at hx;exact(List.all_eq_true.1 (List.all_takeWhile (p:=Dh) (l:=l))) x hx
theorem us_word(s:LB):D8 (95::s)=false:=by
 rw[Bool.eq_false_iff];intro h;unfold D8 at h;rw[List.contains_iff_mem] at h;have key:∀ x ∈ S5,x.head?≠some 95:=by decide
 exact key _ h rfl
theorem Us{c:UInt8}{r:LB}(h:C8 c=true):Eg (Cy (c::r))=true:=by
 have hall:=Ye (c::r);rw[Iq r (Nx h)] at hall ⊢;unfold Eg Aw;simp only;rw[h,us_word]
 have h95:(95::c::Cy r).all Dh=true:=by
  rw[List.all_cons,hall];decide
 rw[h95];decide
theorem tok_good{l:LB}{k:Int}{t:LB}{n:Int}{m:Nat}(h:tok l = .ok (k,t,n,m))(a:Nat):TG ⟨k,a,t,n⟩:=by
 unfold tok at h;split at h
 ·cases h
 ·rename_i c r
  split at h
  ·rename_i h1
   simp only[Except.ok.injEq,Prod.mk.injEq] at h;obtain⟨rfl,rfl,rfl,rfl⟩:=h;refine⟨fun e=>?_,fun e=>?_,fun e=>?_⟩
   ·have hw:D8 (Cy (c::r))=false:=by
     rw[Bool.eq_false_iff];intro hw;simp only[hw,if_true] at e;omega
    show Aw (Cy (c::r))=true;have hall:=Ye (c::r);rw[Iq r (Rh h1)] at hall hw ⊢;simp only[Aw,h1,hall,hw];decide
   ·simp only at e;split at e <;> omega
   ·simp only at e;split at e <;> omega
  ·split at h
   ·rename_i h2
    simp only[Except.ok.injEq,Prod.mk.injEq] at h;obtain⟨rfl,rfl,rfl,rfl⟩:=h;exact⟨fun e=>by simp only at e;omega,fun _=>Us h2,fun e=>by simp only at e;omega⟩
   ·split at h
    ·rename_i h3
     simp only[Except.ok.injEq,Prod.mk.injEq] at h;obtain⟨rfl,rfl,rfl,rfl⟩:=h;refine⟨fun e=>by simp only at e;omega,fun _=>?_,fun e=>by simp only at e;omega⟩
     cases r with
     | nil=>exact absurd h3.2 sM
     | cons d r=>exact Us (by simpa using h3.2)
    ·split at h
     ·split at h
      ·rename_i hr
       simp only[Except.ok.injEq,Prod.mk.injEq] at h;obtain⟨rfl,rfl,rfl,rfl⟩:=h;refine⟨fun e=>by simp only at e;omega,fun e=>by simp only at e;omega,fun _=>?_⟩;show 0≤Dy (Cy (c::r))∧Dy (Cy (c::r))≤Ff;unfold Dy Ff;split
       ·rename_i hv;exact⟨Int.natCast_nonneg _,by have:=hv.2;omega⟩
       ·decide
      ·cases h
     ·split at h
      ·split at h
       ·cases h
       ·exact qq168
      ·exact qq168
theorem lex_good{s:LB}{ts:List Tok}(h:Es s = .ok ts):∀ (j:Nat)(t:Tok),ts[j]?=some t→TG t:=by
 unfold Es at h;split at h
 ·cases h
 ·have key:=Mf (P:=fun _ _ ts=>∀ t ∈ ts,TG t) ?_ ?_ ?_ s.length 0 s ts h
  ·exact fun j t ht=>key t (List.mem_of_getElem? ht)
  ·intro a t ht;rw[List.mem_singleton] at ht;subst ht;exact qq282
  ·intro a c r ts _ ih;exact ih
  ·intro a c r k t n m ts _ ht ih y hy;rcases List.mem_cons.1 hy with rfl|hy
   ·exact tok_good ht a
   ·exact ih y hy
theorem Ph{l:List Ad}{x:Ad}(h:Ax l=true)(hx:Bh x=true):Ax (l++[x])=true:=by
 induction l with
 | nil=>simp[Ax,hx]
 | cons y l ih=>rw[Ax,Ba'] at h;rw[Lp',Ax,h.1,ih h.2];rfl
theorem Ty{l:List Al}{x:Al}(h:Dt l=true)(hx:Fb x=true):Dt (l++[x])=true:=by
 induction l with
 | nil=>simp[Dt,hx]
 | cons y l ih=>rw[Dt,Ba'] at h;rw[Lp',Dt,h.1,ih h.2];rfl
theorem Tw{l:List (Al×Ad)}{p:Al}{x:Ad}(h:Bd l=true)(hp:Fb p=true)(hx:Bh x=true):Bd (l++[(p,x)])=true:=by
 induction l with
 | nil=>simp[Bd,mayA,hp,hx]
 | cons y l ih=>rw[Bd,Ba'] at h;rw[Lp',Bd,h.1,ih h.2];rfl
theorem M0{l:List LB}{x:LB}(h:l.all Aw=true)(hx:Aw x=true):(l++[x]).all Aw=true:=by
 rw[List.all_append,h];simp[hx]
theorem Qr{k a:Int}{x y:Ad}(hk:k=8∨k=20∨k=21∨k=22)(hx:Bh x=true)(hy:Bh y=true):Bh (I7 k a [x,y])=true:=by
 rcases hk with rfl|rfl|rfl|rfl <;> simp[I7,Bh,Ax,Bd,D3,Cc,Ah,Bq,hx,hy]
theorem Qq{n a:Int}{x y:Ad}(hn:n=1∨n=2∨n=3∨n=4∨n=5∨n=7∨n=8∨n=12)(hx:Bh x=true)(hy:Bh y=true):Bh (opE n a [x,y])=true:=by
 rcases hn with rfl|rfl|rfl|rfl|rfl|rfl|rfl|rfl <;> simp[opE,Bh,Ax,Bd,D3,Cc,Ah,Bq,D4,hx,hy]
theorem may_un{n a:Int}{x:Ad}(hn:n=6∨n=9∨n=11)(hx:Bh x=true):Bh (opE n a [x])=true:=by
 rcases hn with rfl|rfl|rfl <;> simp[opE,Bh,Ax,Bd,D3,Cc,Ah,Bq,D4,hx]
theorem may_op{n a:Int}{l:List Ad}(h1:1≤n)(h2:n≤21)(hl:l.length=D4 n)(h:Ax l=true):Bh (opE n a l)=true:=by
 simp[opE,Bh,Bd,D3,Cc,Ah,Bq,h,hl,h1,h2]
theorem may_arms{k a:Int}{x:Ad}{ms:List (Al×Ad)}(hk:k=16∨k=17)(hx:Bh x=true)(hm:Bd ms=true)(hne:ms≠[]):Bh (.mk k a [] 0 [] [] [x] ms)=true:=by
 have hp:0<ms.length:=List.length_pos_iff.2 hne;rcases hk with rfl|rfl <;> simp[Bh,Ax,D3,Cc,Ah,Bq,hx,hm,hp]
theorem may_record{a:Int}{ls:List LB}{l:List Ad}(hn:ls.all Aw=true)(hl:l.length=ls.length)(h:Ax l=true):Bh (.mk 12 a [] 0 [] ls l [])=true:=by
 have hn':=hn;rw[List.all_eq_true] at hn';simp[Bh,Bd,D3,Cc,Ah,Bq,h,hl];exact hn'
theorem Xr{a:Int}{ls:List LB}{l:List Al}(hn:ls.all Aw=true)(hl:l.length=ls.length)(h:Dt l=true):Fb (.mk 9 a [] 0 [] ls l)=true:=by
 have hn':=hn;rw[List.all_eq_true] at hn';simp[Fb,Hm,Ez,Ah,E3,h,hl];exact hn'
theorem U4{tx:LB}{n:Int}{m:Nat}(h:Bz tx=(n,m))(h0:0<n):m=D4 n∧1≤n∧n≤21:=by
 unfold Bz at h
 repeat(split at h;· cases h;exact⟨dC,dC,dC⟩)
 cases h;exact absurd h0 dC
theorem U9{t:Tok}{ok:Bool}{l:List LB}(h:isB t ok l=true):t.text ∈ l:=by
 unfold isB at h;simp only[Ba',List.contains_iff_mem] at h;exact h.2
def PPre:PNT→Prop
 | .marked x=>∃ a,x = .mk 0 a [] 0 [] [] []
 | .recL _ ls args=>ls.all Aw=true∧args.length=ls.length∧Dt args=true
 | _=>True
def NPre:NT→Prop
 | .arms k _=>k=16∨k=17
 | .armsL k _ x acc=>(k=16∨k=17)∧Bh x=true∧Bd acc=true
 | .sumL a=>Bh a=true
 | .prodL a=>Bh a=true
 | .opL n _ m acc=>1≤n∧n≤21∧acc.length+m=D4 n∧Ax acc=true
 | .appL a=>Bh a=true
 | .postL a=>Bh a=true
 | .recL _ ls args=>ls.all Aw=true∧args.length=ls.length∧Ax args=true
 | _=>True
def Wa:NT→Ad→Prop
 | .fn,x=>Bh x=true∧x.k_=7
 | _,x=>Bh x=true
def Prn(Q:Ad→Prop):Option (Tok×Bool)→Cmd→Prop
 | _,.retE x=>Q x
 | kn,.retP x=>(∀ t,kn≠some (t,false))→Fb x=true
 | kn,.look k=>∀ t ok,TG t→(∀ p,kn=some p→p=(t,ok))→Prn Q (some (t,ok)) (k t ok)
 | kn,.ahead k=>∀ n,Prn Q kn (k n)
 | _,.adv k=>Prn Q none k
 | _,.fail _=>True
 | _,.callE nt k=>NPre nt∧∀ x,Wa nt x→Prn Q none (k x)
 | _,.callP nt k=>PPre nt∧∀ x,Fb x=true→Prn Q none (k x)
theorem Wa.may{nt:NT}{x:Ad}(h:Wa nt x):Bh x=true:=by cases nt <;> first|exact h.1|exact h
section
variable {Q:Ad→Prop}
theorem prn_adv{c:Cmd}{kn:Option (Tok×Bool)}(h:Prn Q none c):Prn Q kn (.adv c):=h
theorem Cv{p:Prop} [Decidable p] {c d:Cmd}{kn:Option (Tok×Bool)}(h1:p→Prn Q kn c)(h2:¬ p→Prn Q kn d):Prn Q kn (if p then c else d):=by
 split
 ·exact h1 aS
 ·exact h2 aS
theorem prn_may{s:LB}{k:Bool→Cmd}{kn:Option (Tok×Bool)}(h1:Prn Q none (k true))(h2:∀ t ok,TG t→(∀ p,kn=some p→p=(t,ok))→Prn Q (some (t,ok)) (k false)):Prn Q kn (Ed s k):=by
 intro t ok hg he;show Prn Q _ (if _ then _ else _);split
 ·exact h1
 ·exact h2 t ok hg he
theorem Ev{s:LB}{c d:Cmd}{kn:Option (Tok×Bool)}(h1:Prn Q none c)(h2:∀ t ok,TG t→(∀ p,kn=some p→p=(t,ok))→Prn Q (some (t,ok)) d):Prn Q kn (Ed s fun b=>if b=true then c else d):=
 prn_may (Cv (fun _=>h1) (fun h=>absurd rfl h)) (fun t ok hg he=>Cv (fun h=>by cases h) (fun _=>h2 t ok hg he))
theorem Df{s:LB}{k:Cmd}{kn:Option (Tok×Bool)}(h:Prn Q none k):Prn Q kn (Ch s k):=by
 intro t ok _ _;show Prn Q _ (if _ then _ else _);split
 ·exact h
 ·trivial
theorem Xz{s:LB}{k:Cmd}{t:Tok}:Prn Q (some (t,false)) (Ch s k):=by
 intro t' ok' _ he;cases he _ rfl;show Prn Q _ (if isB t false [s]=true then _ else _);rw[show isB t false [s]=false from rfl,if_neg dC];trivial
theorem J8{k:LB→Cmd}{kn:Option (Tok×Bool)}(h:∀ s,Aw s=true→Prn Q none (k s)):Prn Q kn (Hq k):=by
 intro t ok hg _;show Prn Q _ (if _ then _ else _);split
 ·rename_i hb
  unfold Nq at hb;simp only[Ba',beq_iff_eq] at hb;exact h _ (hg.1 hb.2)
 ·trivial
theorem Ee{x:Al}{kn:Option (Tok×Bool)}(h:Fb x=true):Prn Q kn (.retP x):=fun _=>h
theorem prnP(nt:PNT)(kn:Option (Tok×Bool))(hn:PPre nt):Prn Q kn (Dd nt):=by
 cases nt with
 | pat =>
  intro t ok hg _;refine Cv (fun h=>?_) (fun _=>⟨trivial,fun x hx=>Ee hx⟩);simp only[Ba',beq_iff_eq] at h
  exact⟨trivial,fun x hx=>Ee (by simp[Fb,Dt,Hm,Ez,Ah,E3,hx,hg.2.1 (.inr h.2)])⟩
 | patom =>
  intro t ok hg _;refine Cv (fun h=>fun h2=>absurd rfl (by rw[h] at h2;exact h2 t)) (fun hok=>?_);refine Cv (fun h=>?_) (fun _=>Cv (fun h=>?_) (fun _=>Cv (fun h=>?_) (fun _=>Cv (fun h=>?_) (fun _=>⟨⟨_,rfl⟩,fun x hx=>Ee hx⟩))))
  ·have:=hg.1 h;show(∀ t,none≠some (t,false))→Fb (if _ then _ else _)=true;intro _;split
   ·simp[Fb,Dt,Hm,Ez,Ah,E3]
   ·rename_i h95
    simp[Fb,Dt,Hm,Ez,Ah,E3,this,h95]
  ·exact Ee (Q:=Q) (by simp[Fb,Dt,Hm,Ez,Ah,E3,hg.2.1 (.inl h)])
  ·have:=hg.2.2 h;refine Ee (Q:=Q) ?_;simp[Fb,Dt,Hm,Ez,Ah,E3];unfold Ff at this ⊢;omega
  ·exact Ee (Q:=Q) (by simp[Fb,Dt,Hm,Ez,Ah,E3])
 | marked x =>
  obtain⟨a,rfl⟩:=hn;rw[Wo];refine Ev ?_ (fun t0 ok0 _ _=>Ev ?_ (fun t1 ok1 _ _=>Ev ?_ (fun t2 ok2 _ _=>Ev ?_ (fun t3 ok3 _ _=>Ev ?_ (fun t4 ok4 _ _=>trivial)))))
  ·intro t ok hg _;refine Cv (fun h=>?_) (fun _=>trivial);have:=hg.2.2 h
   have key:Fb (.mk 3 a [] (wrap64 (-t.n)) [] [] [])=true:=by
    simp[Fb,Dt,Hm,Ez,Ah,E3];unfold Ff at this ⊢;unfold wrap64;omega
   exact Cv (fun _=>prn_adv (Ee (Q:=Q) key)) (fun _=>Ee (Q:=Q) key)
  ·exact Ee (by simp[Fb,Dt,Hm,Ez,Ah,E3])
  ·exact Ee (by simp[Fb,Dt,Hm,Ez,Ah,E3])
  ·exact Ev (Ee (by simp[Fb,Dt,Hm,Ez,Ah,E3])) (fun t ok _ _=>⟨trivial,fun x hx=>Df (Ee hx)⟩)
  ·refine Ev (Ee (by simp[Fb,Dt,Hm,Ez,Ah,E3])) (fun t ok _ _=>?_);intro t' ok' _ _
   exact Cv (fun _=>⟨⟨rfl,rfl,rfl⟩,fun x hx=>Ee hx⟩) (fun _=>Df (Ee (by simp[Fb,Dt,Hm,Ez,Ah,E3])))
 | recL a ls args =>
  obtain⟨h1,h2,h3⟩:=hn;rw[body_recP];exact J8 fun s hs=>Df ⟨trivial,fun p hp=>Ev ⟨⟨M0 h1 hs,by simp[h2],Ty h3 hp⟩,fun x hx=>Ee hx⟩ (fun _ _ _ _=>Df (Ee (Xr (M0 h1 hs) (by simp[h2]) (Ty h3 hp))))⟩
theorem prnE(nt:NT)(kn:Option (Tok×Bool))(hn:NPre nt):Prn (Wa nt) kn (body nt):=by
 cases nt with
 | seq=>exact⟨trivial,fun x hx t ok hg _=>Ev ⟨trivial,fun y hy=>Qr oM hx hy⟩ (fun _ _ _ _=>hx)⟩
 | item =>
  intro t ok hg _;refine Ev ?_ (fun t0 ok0 _ _=>?_)
  ·refine prn_may ?_ (fun _ _ _ _=>?_)
   ·exact J8 fun s hs=>Df ⟨trivial,fun x hx=>Df ⟨trivial,fun y hy=>by
     have hx1:=hx.1
     have hx2:=hx.2
     show Bh (.mk 10 t.at' s 0 [] [] [x,y] [])=true
     simp[Bh,Ax,Bd,D3,Cc,Ah,Bq,Er,hs,hx1,hx2,hy.may]⟩⟩
   ·exact J8 fun s hs=>Df ⟨trivial,fun x hx=>Df ⟨trivial,fun y hy=>by
     have hx1:=hx.may
     show Bh (.mk 9 t.at' s 0 [] [] [x,y] [])=true
     simp[Bh,Ax,Bd,D3,Cc,Ah,Bq,hs,hx1,hy.may]⟩⟩
  ·intro t1 ok1 _ _;refine Cv (fun _=>⟨trivial,fun x hx=>hx.may⟩) (fun _=>?_);refine Ev ⟨.inl rfl,fun x hx=>hx.may⟩ (fun _ _ _ _=>Ev ⟨.inr rfl,fun x hx=>hx.may⟩ (fun _ _ _ _=>Ev ?_ (fun _ _ _ _=>Ev ?_ (fun _ _ _ _=>?_))))
   ·exact⟨trivial,fun x hx=>Df ⟨trivial,fun y hy=>Df ⟨trivial,fun z hz=>by
     show Bh _=true
     simp[I7,Bh,Ax,Bd,D3,Cc,Ah,Bq,hx.may,hy.may,hz.may]⟩⟩⟩
   ·exact⟨trivial,fun x hx=>by
     show Bh _=true
     simp[I7,Bh,Ax,Bd,D3,Cc,Ah,Bq,hx.may]⟩
   ·exact⟨trivial,fun x hx t ok hg _=>Ev ⟨trivial,fun y hy=>Qq oM hx hy⟩ (fun _ _ _ _=>hx)⟩
 | fn =>
  intro t ok hg _
  exact Df (J8 fun s hs=>Df ⟨trivial,fun x hx=>⟨by
   simp[Bh,Ax,Bd,D3,Cc,Ah,Bq,hs,hx.may],rfl⟩⟩)
 | arms k a =>
  refine⟨trivial,fun x hx=>Df fun t ok _ _=>?_⟩;show Prn _ _ (if ok=true then _ else _)
  cases ok with
  | true=>exact Cv (fun _=>⟨⟨hn,hx,rfl⟩,fun y hy=>hy⟩) (fun h=>absurd rfl h)
  | false=>exact Cv (fun h=>by cases h) (fun _=>Xz)
 | armsL k a x acc =>
  obtain⟨hk,hx,hc⟩:=hn
  exact⟨trivial,fun p hp=>Df ⟨trivial,fun y hy=>Ev ⟨⟨hk,hx,Tw hc hp hy⟩,fun z hz=>hz⟩ (fun _ _ _ _=>Df (may_arms hk hx (Tw hc hp hy) sM))⟩⟩
 | or=>exact⟨trivial,fun x hx t ok hg _=>Ev ⟨trivial,fun y hy=>Qr oM hx hy⟩ (fun _ _ _ _=>hx)⟩
 | and=>exact⟨trivial,fun x hx t ok hg _=>Ev ⟨trivial,fun y hy=>Qr oM hx hy⟩ (fun _ _ _ _=>hx)⟩
 | cmp=>exact⟨trivial,fun x hx t ok hg _=>Cv (fun h=>⟨trivial,fun y hy=>Qq (by
   have:=U9 h
   simp at this
   rcases this with e|e <;> rw[e] <;> decide) hx hy⟩) (fun _=>hx)⟩
 | sum=>exact⟨trivial,fun x hx=>⟨hx,fun y hy=>hy⟩⟩
 | sumL a=>exact fun t ok hg _=>Cv (fun h=>⟨trivial,fun y hy=>⟨Qq (by
   have:=U9 h
   simp at this
   rcases this with e|e <;> rw[e] <;> decide) hn hy,fun z hz=>hz⟩⟩) (fun _=>hn)
 | prod=>exact⟨trivial,fun x hx=>⟨hx,fun y hy=>hy⟩⟩
 | prodL a=>exact fun t ok hg _=>Cv (fun h=>⟨trivial,fun y hy=>⟨Qq (by
   have:=U9 h
   simp at this
   rcases this with e|e|e <;> rw[e] <;> decide) hn hy,fun z hz=>hz⟩⟩) (fun _=>hn)
 | unary=>exact fun t ok hg _=>Ev ⟨trivial,fun x hx=>may_un oM hx⟩ (fun _ _ _ _=>Ev ⟨trivial,fun x hx=>may_un oM hx⟩ (fun _ _ _ _=>⟨trivial,fun x hx=>hx⟩))
 | app =>
  intro t ok hg _;refine Cv (fun h=>?_) (fun _=>Cv (fun h=>?_) (fun _=>⟨trivial,fun x hx=>⟨hx,fun y hy=>hy⟩⟩))
  ·simp only[Ba',beq_iff_eq] at h
   exact⟨trivial,fun x hx=>by
    show Bh _=true
    simp[Bh,Ax,Bd,D3,Cc,Ah,Bq,hx.may,hg.2.1 (.inr h.2)]⟩
  ·simp only[Ba',decide_eq_true_eq] at h;obtain⟨e1,e2,e3⟩:=U4 (n:=(Bz t.text).1) (m:=(Bz t.text).2) rfl h.2
   exact⟨⟨e2,e3,by simp[e1],rfl⟩,fun x hx=>hx⟩
 | opL n a m acc =>
  obtain⟨h1,h2,h3,h4⟩:=hn
  cases m with
  | zero=>exact may_op h1 h2 h3 h4
  | succ m=>exact⟨trivial,fun x hx=>⟨⟨h1,h2,by simp;omega,Ph h4 hx⟩,fun y hy=>hy⟩⟩
 | appL a=>exact fun t ok hg _=>Cv (fun _=>⟨trivial,fun x hx=>⟨Qr oM hn hx,fun y hy=>hy⟩⟩) (fun _=>hn)
 | post=>exact fun t ok hg _=>Ev ⟨trivial,fun x hx=>may_un oM hx⟩ (fun _ _ _ _=>⟨trivial,fun x hx=>⟨hx,fun y hy=>hy⟩⟩)
 | postL a =>
  refine fun t ok hg _=>Cv (fun h=>?_) (fun _=>hn)
  have hn:Bh a=true:=hn;refine prn_adv (J8 fun s hs=>?_)
  exact⟨by
   show Bh _=true
   simp[Bh,Ax,Bd,D3,Cc,Ah,Bq,hn,hs],fun y hy=>hy⟩
 | atom =>
  intro t ok hg _;refine Cv (fun h=>?_) (fun _=>trivial);show Prn _ none (if _ then _ else _);refine Cv (fun h=>?_) (fun _=>Cv (fun h=>?_) (fun _=>Cv (fun h=>?_) (fun _=>Cv (fun h=>?_) (fun _=>Cv (fun h=>?_) (fun _=>Cv (fun h=>?_) (fun _=>Cv (fun h=>⟨trivial,fun x hx=>hx⟩) (fun _=>?_)))))))
  ·show Bh _=true;simp[Bh,Ax,Bd,D3,Cc,Ah,Bq,hg.1 h]
  ·show Bh _=true;simp[Bh,Ax,Bd,D3,Cc,Ah,Bq,hg.2.1 (.inl h)]
  ·show Bh _=true;simp[Bh,Ax,Bd,D3,Cc,Ah,Bq,hg.2.2 h]
  ·exact qq280
  ·exact qq280
  ·exact qq280
  ·refine Ev ?_ (fun _ _ _ _=>⟨trivial,fun x hx=>Df hx⟩)
   exact qq280
 | braces a =>
  rw[Wm];have h12:Bh (.mk 12 a [] 0 [] [] [] [])=true:=by simp[Bh,Ax,Bd,D3,Cc,Ah,Bq]
  refine Ev h12 (fun t0 ok0 _ _=>fun n t ok hg _=>?_);refine Cv (fun _=>Cv (fun _=>⟨⟨rfl,rfl,rfl⟩,fun x hx=>hx⟩) (fun _=>Df h12)) (fun _=>?_)
  exact⟨trivial,fun x hx=>Df (J8 fun s hs=>Df ⟨trivial,fun y hy=>Df (by
   show Bh _=true
   simp[Bh,Ax,Bd,D3,Cc,Ah,Bq,hs,hx.may,hy.may])⟩)⟩
 | recL a ls args =>
  obtain⟨h1,h2,h3⟩:=hn;rw[body_recE];exact J8 fun s hs=>Df ⟨trivial,fun x hx=>Ev ⟨⟨M0 h1 hs,by simp[h2],Ph h3 hx⟩,fun y hy=>hy⟩ (fun _ _ _ _=>Df (may_record (M0 h1 hs) (by simp[h2]) (Ph h3 hx)))⟩
end
def RsOk(Q:Ad→Prop):Rs→Prop
 | .e x=>Q x
 | .p x=>Fb x=true
theorem Run.prn{ts:List Tok}(hG:∀ (j:Nat)(t:Tok),ts[j]?=some t→TG t){c:Cmd}{st:St}{r:Rs}{st':St}(h:Run ts c st r st'):∀ {Q:Ad→Prop}{kn:Option (Tok×Bool)},Prn Q kn c→Kn ts st kn→st'.ok=true→RsOk Q r:=by
 induction h with
 | retE=>intro Q kn hc _ _;exact hc
 | @retP x st=>intro Q kn hc hk hok;exact hc (fun t ht=>by have:=(hk _ ht).2;rw[hok] at this;cases this)
 | look h hk ih=>intro Q kn hc hkn hok;exact ih (hc _ _ (hG _ _ h) (hkn.to h)) (Kn.see h) hok
 | ahead h hk ih=>intro Q kn hc hkn hok;exact ih (hc _) hkn hok
 | adv hk ih=>intro Q kn hc hkn hok;exact ih hc (Kn.none_ _ _) hok
 | fail hk ih=>intro Q kn hc hkn hok;have:=hk.grows.2 hok;cases this
 | @callE nt k st x st1 r st' h hk ih1 ih2 =>
  intro Q kn hc hkn hok;have hx:Wa nt x:=ih1 (prnE nt kn hc.1) hkn (hk.grows.2 hok)
  exact ih2 (hc.2 x hx) (Kn.none_ _ _) hok
 | @callP nt k st x st1 r st' h hk ih1 ih2 =>
  intro Q kn hc hkn hok;have hx:Fb x=true:=ih1 (prnP (Q:=Q) nt kn hc.1) hkn (hk.grows.2 hok);exact ih2 (hc.2 x hx) (Kn.none_ _ _) hok
theorem pr_may{s:LB}{x:Ad}{p:Int}(h:PR s x 0 p):Bh x=true∧szE x≤4096∧Hj 200 x=none:=by
 cases h with
 | lexErr h=>rcases Pe h with⟨_,h,_⟩| ⟨_,_,h,_⟩<;> omega
 | ok hl hr ht hok hend hm hd=>exact⟨hr.prn (lex_good hl) (prnE .seq none trivial) (Kn.none_ _ _) hok,hm,hd⟩
theorem SL.map_eq{α β:Type}{R:α→α→Prop}{f:List α→List β}{g:α→β}(hf0:f []=[])(hf:∀ x l,f (x::l)=g x::f l):∀ {l m:List α},l.length=m.length→(∀ (i:Nat)(x y:α),l[i]?=some x→m[i]?=some y→g x=g y)→f l=f m
 | [],[],_,_=>rfl
 | [],_::_,h,_=>by simp at h
 | _::_,[],h,_=>by simp at h
 | x::l,y::m,h,hg=>by
  rw[hf,hf,hg 0 x y rfl rfl,SL.map_eq (R:=R) hf0 hf (by simpa using h) (fun i u v hu hv=>hg (i+1) u v (by simpa using hu) (by simpa using hv))]
theorem Fu.tx{x y:Al}(h:Fu x y):txP x=txP y:=by
 induction h with
 | mk hl h ih=>rw[txP,txP,SL.map_eq (R:=Fu) (f:=Ih) (g:=txP) (by rw[Ih]) (fun x l=>by rw[Ih]) hl ih]
theorem Ds.tx{x y:Ad}(h:Ds x y):txE x=txE y:=by
 induction h with
 | mk hl h hl2 hp hx ih ih2 =>
  rw[txE,txE,SL.map_eq (R:=Ds) (f:=Bj) (g:=txE) (by rw[Bj]) (fun x l=>by rw[Bj]) hl ih,
   SL.map_eq (R:=SameA) (f:=Dp) (g:=txA) (by rw[Dp]) (fun x l=>by rw[Dp]) hl2 (fun i q r hq hr=>by
    obtain⟨p,x⟩:=q
    obtain⟨p',y⟩:=r
    rw[txA,txA,(hp i p p' x y hq hr).tx,ih2 i p p' x y hq hr])]
def TL(t:Tok):Prop:=t.text.length≤4096∧0≤t.n∧t.n≤4611686018427387903
def SPreP:PNT→Prop
 | .marked x=>SwP x
 | .recL _ ls args=>(∀ x ∈ ls,x.length≤65536)∧Ra args
 | _=>True
def SPreE:NT→Prop
 | .armsL _ _ x acc=>SwE x∧Pa acc
 | .sumL a=>SwE a
 | .prodL a=>SwE a
 | .opL n _ _ acc=>inN n∧Kq acc
 | .appL a=>SwE a
 | .postL a=>SwE a
 | .recL _ ls args=>(∀ x ∈ ls,x.length≤65536)∧Kq args
 | _=>True
def swt:Cmd→Prop
 | .retE x=>SwE x
 | .retP x=>SwP x
 | .look k=>∀ t,TL t→swt (k t true)
 | .ahead k=>∀ n,swt (k n)
 | .adv k=>swt k
 | .fail _=>True
 | .callE nt k=>SPreE nt∧∀ x,SwE x→swt (k x)
 | .callP nt k=>SPreP nt∧∀ x,SwP x→swt (k x)
theorem Cw{p:Prop} [Decidable p] {c d:Cmd}(h1:p→swt c)(h2:¬ p→swt d):swt (if p then c else d):=by
 split
 ·exact h1 aS
 ·exact h2 aS
theorem Yk{s:LB}{k:Bool→Cmd}(h1:swt (k true))(h2:swt (k false)):swt (Ed s k):=fun _ _=>Cw (fun _=>h1) (fun _=>h2)
theorem Dq{s:LB}{c d:Cmd}(h1:swt c)(h2:swt d):swt (Ed s fun b=>if b=true then c else d):=Yk h1 h2
theorem Dn{s:LB}{c:Cmd}(h:swt c):swt (Ch s c):=fun _ _=>Cw (fun _=>h) (fun _=>trivial)
theorem Kb{k:LB→Cmd}(h:∀ s,s.length≤65536→swt (k s)):swt (Hq k):=fun t ht=>Cw (fun _=>h _ (by have:=ht.1;omega)) (fun _=>trivial)
theorem swt_is{l:List LB}{k:Bool→Cmd}(h:∀ c,swt (k c)):swt (isC l k):=fun _ _=>h _
theorem Nc{k a:Int}{l:List Ad}(h:Kq l):SwE (I7 k a l):=⟨⟨sM,by constructor <;> omega,sM,sM⟩,h,trivial⟩
theorem P7{n a:Int}{l:List Ad}(hn:inN n)(h:Kq l):SwE (opE n a l):=⟨⟨sM,hn,sM,sM⟩,h,trivial⟩
theorem L2{k a:Int}{nm:LB}{l:List Ad}{m:List (Al×Ad)}(hn:nm.length≤65536)(h:Kq l)(hm:Pa m):SwE (.mk k a nm 0 [] [] l m):=⟨⟨hn,by constructor <;> omega,sM,sM⟩,h,hm⟩
theorem sw_ls{l:List LB}{x:LB}(h:∀ y ∈ l,y.length≤65536)(hx:x.length≤65536):∀ y ∈ l++[x],y.length≤65536:=fun y hy=>by
 rcases List.mem_append.1 hy with hy|hy
 ·exact h y hy
 ·rw[List.mem_singleton] at hy;rw[hy];exact hx
theorem Pd(s:LB):inN (Bm s):=by
 unfold Bm
 repeat' split
 all_goals constructor <;> decide
theorem in_called(s:LB):inN (Bz s).1:=by
 unfold Bz
 repeat' split
 all_goals constructor <;> decide
theorem H9{n:Int}(h:n=0∨n=1∨n=6∨n=9∨n=11∨n=12):inN n:=by constructor <;> omega
theorem swtP(nt:PNT)(hp:SPreP nt):swt (Dd nt):=by
 cases nt with
 | pat=>exact fun t ht=>Cw (fun _=>⟨trivial,fun x hx=>⟨⟨by have:=ht.1;omega,H9 (.inl rfl),sM,sM⟩,hx,trivial⟩⟩) (fun _=>⟨trivial,fun x hx=>hx⟩)
 | patom =>
  refine fun t ht=>Cw (fun h=>by cases h) (fun _=>Cw (fun _=>?_) (fun _=>Cw (fun _=>?_) (fun _=>Cw (fun _=>?_) (fun _=>Cw (fun _=>?_) (fun _=>⟨?_,fun x hx=>hx⟩)))))
  ·show SwP _;split <;> exact⟨⟨by first|simp|(have:=ht.1;omega),H9 (.inl rfl),sM,sM⟩,trivial⟩
  ·exact⟨⟨by have:=ht.1;omega,H9 (.inl rfl),sM,sM⟩,trivial⟩
  ·exact⟨⟨sM,⟨by have:=ht.2;omega,by have:=ht.2;omega⟩,sM,sM⟩,trivial⟩
  ·exact⟨⟨sM,H9 (.inl rfl),by have:=ht.1;omega,sM⟩,trivial⟩
  ·exact⟨⟨sM,H9 (.inl rfl),sM,sM⟩,trivial⟩
 | marked x =>
  obtain⟨k,a,nm,n,s,ls,args⟩:=x;obtain⟨⟨h1,h2,h3,h4⟩,h5⟩:=hp;unfold Dd;refine Dq ?_ (Dq ?_ (Dq ?_ (Dq ?_ (Dq ?_ trivial))))
  ·refine fun t ht=>Cw (fun _=>Cw (fun _=>?_) (fun h=>absurd rfl h)) (fun _=>trivial)
   have e:wrap64 (-t.n)= -t.n:=IntWalk.wrap64_in _ (by have:=ht.2;omega);show SwP _;rw[e];exact⟨⟨h1,⟨by have:=ht.2;omega,by have:=ht.2;omega⟩,h3,h4⟩,h5⟩
  ·exact⟨⟨h1,H9 sM,h3,h4⟩,h5⟩
  ·exact⟨⟨h1,h2,h3,h4⟩,h5⟩
  ·exact Dq ⟨⟨h1,h2,h3,h4⟩,h5⟩ ⟨trivial,fun x hx=>Dn hx⟩
  ·exact Dq ⟨⟨h1,h2,h3,h4⟩,h5⟩ (fun t ht=>Cw (fun _=>⟨⟨h4,h5⟩,fun x hx=>hx⟩) (fun h=>absurd rfl h))
 | recL a ls args =>
  obtain⟨h4,h5⟩:=hp;unfold Dd;exact Kb fun s hs=>Dn ⟨trivial,fun x hx=>Dq ⟨⟨sw_ls h4 hs,h5.app hx⟩,fun y hy=>hy⟩ (Dn ⟨⟨sM,H9 (.inl rfl),sM,sw_ls h4 hs⟩,h5.app hx⟩)⟩
theorem swtE(nt:NT)(hp:SPreE nt):swt (body nt):=by
 cases nt with
 | seq=>exact⟨trivial,fun x hx t ht=>Dq ⟨trivial,fun y hy=>Nc ⟨hx,hy,trivial⟩⟩ hx⟩
 | item =>
  refine fun t ht=>Dq ?_ (swt_is fun c=>Cw (fun _=>⟨trivial,fun x hx=>hx⟩) (fun _=>Dq ⟨trivial,fun x hx=>hx⟩ (Dq ⟨trivial,fun x hx=>hx⟩ (Dq ?_ (Dq ?_ ?_)))))
  ·refine Yk ?_ ?_
   ·exact qq278
   ·exact qq278
  ·exact⟨trivial,fun x hx=>Dn ⟨trivial,fun y hy=>Dn ⟨trivial,fun z hz=>Nc ⟨hx,hy,hz,trivial⟩⟩⟩⟩
  ·exact⟨trivial,fun x hx=>Nc ⟨hx,trivial⟩⟩
  ·exact⟨trivial,fun x hx t ht=>Dq ⟨trivial,fun y hy=>P7 (H9 sM) ⟨hx,hy,trivial⟩⟩ hx⟩
 | fn=>exact fun t ht=>Dn (Kb fun s hs=>Dn ⟨trivial,fun x hx=>L2 hs ⟨hx,trivial⟩ trivial⟩)
 | arms k a=>exact⟨trivial,fun x hx=>Dn fun t ht=>Cw (fun _=>⟨⟨hx,trivial⟩,fun y hy=>hy⟩) (fun h=>absurd rfl h)⟩
 | armsL k a x acc=>exact⟨trivial,fun p hpx=>Dn ⟨trivial,fun y hy=>Dq ⟨⟨hp.1,hp.2.app hpx hy⟩,fun z hz=>hz⟩ (Dn (L2 sM ⟨hp.1,trivial⟩ (hp.2.app hpx hy)))⟩⟩
 | or=>exact⟨trivial,fun x hx t ht=>Dq ⟨trivial,fun y hy=>Nc ⟨hx,hy,trivial⟩⟩ hx⟩
 | and=>exact⟨trivial,fun x hx t ht=>Dq ⟨trivial,fun y hy=>Nc ⟨hx,hy,trivial⟩⟩ hx⟩
 | cmp=>exact⟨trivial,fun x hx t ht=>Cw (fun _=>⟨trivial,fun y hy=>P7 (Pd _) ⟨hx,hy,trivial⟩⟩) (fun _=>hx)⟩
 | sum=>exact⟨trivial,fun x hx=>⟨hx,fun y hy=>hy⟩⟩
 | sumL a=>exact fun t ht=>Cw (fun _=>⟨trivial,fun x hx=>⟨P7 (a:=0) (Pd _) ⟨hp,hx,trivial⟩,fun y hy=>hy⟩⟩) (fun _=>hp)
 | prod=>exact⟨trivial,fun x hx=>⟨hx,fun y hy=>hy⟩⟩
 | prodL a=>exact fun t ht=>Cw (fun _=>⟨trivial,fun x hx=>⟨P7 (a:=0) (Pd _) ⟨hp,hx,trivial⟩,fun y hy=>hy⟩⟩) (fun _=>hp)
 | unary=>exact fun t ht=>Dq ⟨trivial,fun x hx=>P7 (H9 sM) ⟨hx,trivial⟩⟩ (Dq ⟨trivial,fun x hx=>P7 (H9 sM) ⟨hx,trivial⟩⟩ ⟨trivial,fun x hx=>hx⟩)
 | app=>exact fun t ht=>Cw (fun _=>⟨trivial,fun x hx=>L2 (by have:=ht.1;omega) ⟨hx,trivial⟩ trivial⟩) (fun _=>Cw (fun _=>⟨⟨in_called _,trivial⟩,fun x hx=>hx⟩) (fun _=>⟨trivial,fun x hx=>⟨hx,fun y hy=>hy⟩⟩))
 | opL n a m acc =>
  cases m with
  | zero=>exact P7 hp.1 hp.2
  | succ m=>exact⟨trivial,fun x hx=>⟨⟨hp.1,hp.2.app hx⟩,fun y hy=>hy⟩⟩
 | appL a=>exact fun t ht=>Cw (fun _=>⟨trivial,fun x hx=>⟨Nc (k:=0) (a:=0) ⟨hp,hx,trivial⟩,fun y hy=>hy⟩⟩) (fun _=>hp)
 | post=>exact fun t ht=>Dq ⟨trivial,fun x hx=>P7 (H9 sM) ⟨hx,trivial⟩⟩ ⟨trivial,fun x hx=>⟨hx,fun y hy=>hy⟩⟩
 | postL a=>exact fun t ht=>Cw (fun _=>Kb (k:=fun nm => .callE (.postL (.mk 14 t.at' nm 0 [] [] [a] [])) .retE) (fun s hs=>⟨L2 (k:=0) (a:=0) hs ⟨hp,trivial⟩ trivial,fun y hy=>hy⟩)) (fun _=>hp)
 | atom =>
  refine fun t ht=>Cw (fun _=>?_) (fun _=>trivial)
  have hx:=ht.1;refine Cw (fun _=>L2 oM trivial trivial) fun _=>Cw (fun _=>L2 oM trivial trivial) fun _=>Cw (fun _=>?_) fun _=>Cw (fun _=>?_) fun _=>Cw (fun _=>?_) fun _=>Cw (fun _=>L2 sM trivial trivial) fun _=>Cw (fun _=>⟨trivial,fun x hx=>hx⟩) fun _=>?_
  ·exact⟨⟨sM,⟨by have:=ht.2;omega,by have:=ht.2;omega⟩,sM,sM⟩,trivial,trivial⟩
  ·exact⟨⟨sM,H9 (.inl rfl),oM,sM⟩,trivial,trivial⟩
  ·exact⟨⟨sM,H9 sM,sM,sM⟩,trivial,trivial⟩
  ·exact Dq (L2 sM trivial trivial) ⟨trivial,fun x hx=>Dn hx⟩
 | braces a =>
  unfold body
  refine Dq (L2 sM trivial trivial) fun n t ht=>Cw (fun _=>Cw (fun _=>⟨⟨sM,trivial⟩,fun x hx=>hx⟩) (fun h=>absurd rfl h)) (fun _=>⟨trivial,fun x hx=>Dn (Kb fun s hs=>Dn ⟨trivial,fun y hy=>Dn (L2 hs ⟨hx,hy,trivial⟩ trivial)⟩)⟩)
 | recL a ls args =>
  unfold body;exact Kb fun s hs=>Dn ⟨trivial,fun x hx=>Dq ⟨⟨sw_ls hp.1 hs,hp.2.app hx⟩,fun y hy=>hy⟩ (Dn ⟨⟨sM,H9 (.inl rfl),sM,sw_ls hp.1 hs⟩,hp.2.app hx,trivial⟩)⟩
def swR:Rs→Prop
 | .e x=>SwE x
 | .p x=>SwP x
theorem Run.sw{ts:List Tok}(hG:∀ (j:Nat)(t:Tok),ts[j]?=some t→TL t){c:Cmd}{st:St}{r:Rs}{st':St}(h:Run ts c st r st'):swt c→st'.ok=true→swR r:=by
 induction h with
 | retE=>intro hw _;exact hw
 | retP=>intro hw _;exact hw
 | look h hk ih=>intro hw hok;have:=hk.grows.2 hok;exact ih (by rw[this];exact hw _ (hG _ _ h)) hok
 | ahead h hk ih=>intro hw hok;exact ih (hw _) hok
 | adv hk ih=>intro hw hok;exact ih hw hok
 | fail hk ih=>intro hw hok;have:=hk.grows.2 hok;cases this
 | @callE nt k st x st1 r st' h hk ih1 ih2=>intro hw hok;exact ih2 (hw.2 x (ih1 (swtE nt hw.1) (hk.grows.2 hok))) hok
 | @callP nt k st x st1 r st' h hk ih1 ih2=>intro hw hok;exact ih2 (hw.2 x (ih1 (swtP nt hw.1) (hk.grows.2 hok))) hok
theorem lex_tl{s:LB}{ts:List Tok}(h:Es s = .ok ts):∀ (j:Nat)(t:Tok),ts[j]?=some t→TL t:=by
 intro j t ht;have h1:=(Om h).2.2.2.1 t (List.mem_of_getElem? ht);exact⟨h1.x,h1.n0,h1.n1⟩
theorem pr_sw{s:LB}{x:Ad}{p:Int}(h:PR s x 0 p):SwE x:=by
 cases h with
 | lexErr h=>rcases Pe h with⟨_,h,_⟩| ⟨_,_,h,_⟩<;> omega
 | ok hl hr ht hok hend hm hd=>exact hr.sw (lex_tl hl) (swtE .seq trivial) hok
def Mt(may:Bool)(t:LB):LB×Int:=if may=true then (if 4096<t.length then ([],4)else (t,0))else ([],5)
def O0(x:Ad):LB×Int:=if 4096<szE x then ([],3)else if (Hj 200 x).isSome=true then ([],22)else Mt (Bh x) (txE x)
theorem showR_of{x:Ad}(hm:Bh x=true)(hs:szE x≤4096)(hd:Hj 200 x=none):O0 x=if 4096<(txE x).length then ([],4)else (txE x,0):=by
 unfold O0;rw[if_neg oM,if_neg (by rw[hd];simp),Mt,if_pos hm]
section
attribute [local instance] KdB.no
def awR:LB:=[102,117,110,32,120,32,45,62,32,102,117,110,32,120,32,45,62,32,120]
def awRL:List Tok:=[⟨6,0,[102,117,110],0⟩,⟨1,4,[120],0⟩,⟨7,6,[45,62],0⟩,⟨6,9,[102,117,110],0⟩,⟨1,13,[120],0⟩,⟨7,15,[45,62],0⟩,⟨1,18,[120],0⟩,⟨0,19,[],0⟩]
theorem awRL_eq:Es awR = .ok awRL:=by rfl
def awRX:Ad:=.mk 7 0 [120] 0 [] [] [.mk 7 9 [120] 0 [] [] [varE 18 [120]] []] []
theorem awRRun:Run awRL (body .seq) ⟨0,true⟩ (.e awRX) ⟨7,true⟩:=Hb 200 _ _ _ _ rF
theorem awRPR:PR awR awRX 0 0:=.ok awRL_eq awRRun rfl rfl rfl dC rF
def awRT:At:=.mk 7 0 0 0 [] [] [.mk 7 9 1 0 [] [] [.mk 1 18 1 0 [] [] [] []] []] []
theorem awR_res:Ql awRX=(awRT,0,0):=by rfl
def awR2:LB:=[49,59,32,122]
def awR2L:List Tok:=[⟨4,0,[],1⟩,⟨7,1,[59],0⟩,⟨1,3,[122],0⟩,⟨0,4,[],0⟩]
theorem awR2L_eq:Es awR2 = .ok awR2L:=by rfl
def awR2X:Ad:=.mk 20 1 [] 0 [] [] [.mk 2 0 [] 1 [] [] [] [],varE 3 [122]] []
theorem awR2Run:Run awR2L (body .seq) ⟨0,true⟩ (.e awR2X) ⟨3,true⟩:=Hb 200 _ _ _ _ rF
theorem awR2PR:PR awR2 awR2X 0 0:=.ok awR2L_eq awR2Run rfl rfl rfl dC rF
theorem awR2_res:Ql awR2X=(.zero,23,3):=by rfl
theorem awR_ok:∃ C',OkT awRT 1 ⟨0,[],[]⟩ C':=by
 refine⟨_,.fn rfl ⟨dC,dC⟩ ⟨dC,dC,by simp[Ck.one]⟩ (.cons (.fn rfl ⟨by simp[Ck.one,Ck.bind],dC⟩ ⟨dC,dC,by simp[Ck.one,Ck.bind]⟩ (.cons (.var ⟨by simp[Ck.one,Ck.bind],dC⟩ (by simp[Ck.one,Ck.bind])) .nil)) .nil)⟩
end
section
attribute [local go_sem ↓] Go.wp_at_zero Go.wp_at_succ
theorem nn7(h:p:=by
 have kqq115:=@Hz _ @nn297;exact qq115):p:=h
theorem nn143(h:p:=by
 have hEs:Bf args none (S.bind nm)=([(tmE (.mk p0 pa0 pn0 pi0 ps0 pl0 pr0 pm0) (S.bind nm)).1,(tmE (.mk p1 pa1 pn1 pi1 ps1 pl1 pr1 pm1) (tmE (.mk p0 pa0 pn0 pi0 ps0 pl0 pr0 pm0) (S.bind nm)).2).1],(tmE (.mk p0 pa0 pn0 pi0 ps0 pl0 pr0 pm0) (S.bind nm)).2.n,(tmE (.mk p1 pa1 pn1 pi1 ps1 pl1 pr1 pm1) (tmE (.mk p0 pa0 pn0 pi0 ps0 pl0 pr0 pm0) (S.bind nm)).2).2):=by rw[hargs];simp[Bf,Pi]
 rw[hEs];dsimp only;clear hEs hargs;have hsz:=HNS.out;have hgA:=Pt (.mk p0 pa0 pn0 pi0 ps0 pl0 pr0 pm0) (S.bind nm);have hlA:=P8 (.mk p0 pa0 pn0 pi0 ps0 pl0 pr0 pm0) (S.bind nm);have hSB1:SB (S.bind nm) (szE (.mk p0 pa0 pn0 pi0 ps0 pl0 pr0 pm0)):=SB.step (HB.out.mono oM) (Gr.bind S nm);have hSB3:SB (tmE (.mk p0 pa0 pn0 pi0 ps0 pl0 pr0 pm0) (S.bind nm)).2 (szE (.mk p1 pa1 pn1 pi1 ps1 pl1 pr1 pm1)):=SB.step (SB.step (j:=1) (HB.out.mono oM) (Gr.bind S nm)) hgA;obtain⟨r,hr⟩:=Gd S nm;have hml:S.l.length≤(tmE (.mk p0 pa0 pn0 pi0 ps0 pl0 pr0 pm0) (S.bind nm)).2.l.length:=by rw[hlA,hr,La'];omega
 have cB:=fun W (hW:Dg w0 P S A c W)=>Hz (Ju hW nm (by have:=HB.out.2.2;omega) HB.out.1 (by have:=HB.out.2.1;omega))
 have cT:=fun W A2 c2 hW=>Hz (IH.out p0 pa0 pn0 pi0 ps0 pl0 pr0 pm0 P50 P60 P70 q50 q60 q70 w0 W ok P (S.bind nm) A2 c2 oM hmx0 hwx0 hx0 hW hSB1)
 have cW:=fun W A2 c2 hW=>Hz (Jc N IH.out p1 pa1 pn1 pi1 ps1 pl1 pr1 pm1 P51 P61 P71 q51 q61 q71 w0 W ok P (tmE (.mk p0 pa0 pn0 pi0 ps0 pl0 pr0 pm0) (S.bind nm)).2 A2 c2 S.l.length oM hmx1 hwx1 hx1 hW hSB3 hml)
 generalize S.bind nm=S0 at *
 generalize (tmE (.mk p0 pa0 pn0 pi0 ps0 pl0 pr0 pm0) S0).1=X at *
 generalize (tmE (.mk p0 pa0 pn0 pi0 ps0 pl0 pr0 pm0) S0).2=S2 at *
 have kqq339:=@Hz _ @nn642;exact qq339):p:=h
theorem nn232(h:p:=by
 have kqq321:=@Hz _ @nn588;exact qq321):p:=h
theorem nn287(h:p:=by
 have hZ:Fr [w.heap.size+1,w.heap.size+1+1] x9 (((((((((x9.setCell ⟨w.heap.size+1+1,6,none⟩ (.slice (some ⟨x9.heap.size,0,none⟩) 2 2)).setCell ⟨w.heap.size+1,0,none⟩ (vI 10)).setCell ⟨w.heap.size+1,1,none⟩ (vI a)).setCell ⟨w.heap.size+1,2,none⟩ (vI S.n)).setCell ⟨w.heap.size+1,3,none⟩ (vI 0)).setCell ⟨w.heap.size+1,4,none⟩ (vE)).setCell ⟨w.heap.size+1,5,none⟩ (vZ)).setCell ⟨w.heap.size+1,6,none⟩ (.slice (some ⟨x9.heap.size,0,none⟩) 2 2)).setCell ⟨w.heap.size+1,7,none⟩ (vZ)):=((((((((((Fr.refl [w.heap.size+1,w.heap.size+1+1] x9).setCell (p:=⟨w.heap.size+1+1,6,none⟩) (.inl sM) (.slice (some ⟨x9.heap.size,0,none⟩) 2 2)).setCell (p:=⟨w.heap.size+1,0,none⟩) (.inl sM) (vI 10)).setCell (p:=⟨w.heap.size+1,1,none⟩) (.inl sM) (vI a)).setCell (p:=⟨w.heap.size+1,2,none⟩) (.inl sM) (vI S.n)).setCell (p:=⟨w.heap.size+1,3,none⟩) (.inl sM) (vI 0)).setCell (p:=⟨w.heap.size+1,4,none⟩) (.inl sM) (vE)).setCell (p:=⟨w.heap.size+1,5,none⟩) (.inl sM) (vZ)).setCell (p:=⟨w.heap.size+1,6,none⟩) (.inl sM) (.slice (some ⟨x9.heap.size,0,none⟩) 2 2)).setCell (p:=⟨w.heap.size+1,7,none⟩) (.inl sM) (vZ))
 have hsz:(((((((((x9.setCell ⟨w.heap.size+1+1,6,none⟩ (.slice (some ⟨x9.heap.size,0,none⟩) 2 2)).setCell ⟨w.heap.size+1,0,none⟩ (vI 10)).setCell ⟨w.heap.size+1,1,none⟩ (vI a)).setCell ⟨w.heap.size+1,2,none⟩ (vI S.n)).setCell ⟨w.heap.size+1,3,none⟩ (vI 0)).setCell ⟨w.heap.size+1,4,none⟩ (vE)).setCell ⟨w.heap.size+1,5,none⟩ (vZ)).setCell ⟨w.heap.size+1,6,none⟩ (.slice (some ⟨x9.heap.size,0,none⟩) 2 2)).setCell ⟨w.heap.size+1,7,none⟩ (vZ)).heap.size=x9.heap.size:=by simp[World.setCell]
 have hG:=Aq (x:=x9.setCell ⟨w.heap.size+1+1,6,none⟩ (.slice (some ⟨x9.heap.size,0,none⟩) 2 2)) (((Fr.refl [w.heap.size+1+1] x9).setCell (p:=⟨w.heap.size+1+1,6,none⟩) (.inl sM) (.slice (some ⟨x9.heap.size,0,none⟩) 2 2)).keep HT9.out.r (by simp only[List.mem_singleton];omega)) (vI 10) (vI a) (vI S.n) (vI 0) (vE) (vZ) (.slice (some ⟨x9.heap.size,0,none⟩) 2 2) (vZ);unfold st8 at hG
 generalize ((((((((x9.setCell ⟨w.heap.size+1+1,6,none⟩ (.slice (some ⟨x9.heap.size,0,none⟩) 2 2)).setCell ⟨w.heap.size+1,0,none⟩ (vI 10)).setCell ⟨w.heap.size+1,1,none⟩ (vI a)).setCell ⟨w.heap.size+1,2,none⟩ (vI S.n)).setCell ⟨w.heap.size+1,3,none⟩ (vI 0)).setCell ⟨w.heap.size+1,4,none⟩ (vE)).setCell ⟨w.heap.size+1,5,none⟩ (vZ)).setCell ⟨w.heap.size+1,6,none⟩ (.slice (some ⟨x9.heap.size,0,none⟩) 2 2)).setCell ⟨w.heap.size+1,7,none⟩ (vZ)=Z at *
 have hX9:Au (x9.alloc (.cells #[vI k1,vI a1,vI v1,vI n1,.string ⟨s1⟩,.slice B51 n51 e51,.slice B61 n61 e61,.slice B71 n71 e71,vI k3,vI a3,vI v3,vI n3,.string ⟨s3⟩,.slice B53 n53 e53,.slice B63 n63 e63,.slice B73 n73 e73] 34)) (TOk (w.heap.size+3) _) _ [vI 10,vI a,vI S.n,vI 0,vE,vZ,.slice (some ⟨x9.heap.size,0,none⟩) 2 2,vZ]:=Au.of_rows (c5:=fun _=>[]) (c7:=fun _=>[]) An.nil_ (Qt HXX.out HXY.out HT9.out.sz HT9.out.st.1.own_lt) An.nil_;have kqq231:=@Hz _ @nn437;exact qq231):p:=h
theorem nn297(h:p:=by
 have t10:(k==10)=true:=by simp;omega
 have t21:(k==21)=false:=by simp;omega
 have t22:(k==22)=false:=by simp;omega
 have t12:(k==12)=false:=by simp;omega
 have t16:(k==16)=false:=by simp;omega
 have t17:(k==17)=false:=by simp;omega
 have hal:args.length=2:=Jv (h:=⟨true,false,false,false,2,false⟩) (by rw[hk0];rfl) hfo;have kqq44:=@Hz _ @nn143;exact qq44):p:=h
theorem nn308(h:p:=by
 have hX:tmE (.mk k a nm n s ls args arms) S=(.mk 10 a S.n 0 [] [] (Bf args none (S.bind nm)).1 [],(Bf args none (S.bind nm)).2.2.cut S.l.length):=by
  subst hk0;rw[Pn]
 have kqq4:=@Hz _ @nn7;exact qq4):p:=h
theorem nn428(h:p:=by
 go_region_held3 (fun w'=>w'.cell? ⟨D,0,none⟩=some (vI k1)∧w'.cell? ⟨D,1,none⟩=some (vI a1)∧w'.cell? ⟨D,2,none⟩=some (vI v1)∧w'.cell? ⟨D,3,none⟩=some (vI n1)∧w'.cell? ⟨D,4,none⟩=some (.string ⟨s1⟩)∧w'.cell? ⟨D,5,none⟩=some (.slice B51 n51 e51)∧w'.cell? ⟨D,6,none⟩=some (.slice B61 n61 e61)∧w'.cell? ⟨D,7,none⟩=some (.slice B71 n71 e71)∧w'.cell? ⟨w.heap.size,6,none⟩=some (.slice (some ⟨g,o,none⟩) args.length c6)∧w'.cell? ⟨g,o+8,none⟩=some (vI p1)∧w'.cell? ⟨g,o+9,none⟩=some (vI pa1)∧w'.cell? ⟨g,o+10,none⟩=some (vS pn1)∧w'.cell? ⟨g,o+11,none⟩=some (vI pi1)∧w'.cell? ⟨g,o+12,none⟩=some (vS ps1)∧w'.cell? ⟨g,o+13,none⟩=some (.slice P51 pl1.length q51)∧w'.cell? ⟨g,o+14,none⟩=some (.slice P61 pr1.length q61)∧w'.cell? ⟨g,o+15,none⟩=some (.slice P71 pm1.length q71)) (first|go_keep|exact M7)
  ((first|((with_reducible refine(cW _ _ _ HSb).out.mono ?_);rintro e x9 ⟨k3,a3,v3,n3,s3,B53,n53,e53,B63,n63,e63,B73,n73,e73,A3,c3,rfl,hX3,hst3⟩;have T9:=(HTb.out.fr0 (Fr.refl [] yb).drew).step hP hst3;have P9:=hst3.2.1.keep (w:=yb.drew) HPD.out hnD2;obtain⟨j0,j1,j2,j3,j4,j5,j6,j7⟩:=HC1.out.at hg T9.st.1.fr;simp only[Nat.one_mul,Nat.add_assoc,Nat.reduceAdd] at j0 j1 j2 j3 j4 j5 j6 j7;have M7:=Rt P9 T9.e (⟨j0,j1,j2,j3,j4,j5,j6,j7⟩:_∧_∧_∧_∧_∧_∧_∧_);obtain⟨⟨l0,l1,l2,l3,l4,l5,l6,l7⟩,f0,f1,f2,f3,f4,f5,f6,f7⟩:=Ac T9.t;obtain⟨⟨u0,u1,u2,u3,u4,u5,u6,u7⟩,z0,z1,z2,z3,z4,z5,z6,z7⟩:=Ac T9.r;have hL0:D<x9.heap.size:=Aa P9;have hL1:w.heap.size<x9.heap.size:=Aa T9.e;have hL:w.heap.size+1+1<x9.heap.size:=Aa T9.t;have hL':w.heap.size+1<x9.heap.size:=Aa T9.r;have hL2:¬ x9.heap.size=w.heap.size+1+1:=oM;have hL3:¬ x9.heap.size=w.heap.size+1:=oM;have hL4:¬ w.heap.size+1+1=x9.heap.size:=oM;have hL5:¬ w.heap.size+1=x9.heap.size:=oM)))
 all_goals
  have kqq105:=@Hz _ @nn287;exact qq105):p:=h
theorem nn437(h:p:=by
 refine bodyPost_ret (v:=.agg #[vI 10,vI a,vI S.n,vI 0,vE,vZ,.slice (some ⟨x9.heap.size,0,none⟩) 2 2,vZ]) ?_ rfl hfin;exact qq329):p:=h
theorem nn588(h:p:=by
 clear c0;refine(cB x5 T0.st.1).out.mono ?_;rintro e x6 ⟨A1,c1,rfl,hst⟩;have T1:=T0.step hP hst;have kqq353:=@Hz _ @nn685;exact qq353):p:=h
theorem nn642(h:p:=by
 have kqq81:=@Hz _ @nn232;exact qq81):p:=h
theorem nn685(h:p:=by
 have nTR:¬ w.heap.size+1+1=w.heap.size+1:=by omega
 have nRT:¬ w.heap.size+1=w.heap.size+1+1:=by omega
 obtain⟨⟨i0,i1,i2,i3,i4,i5,i6,i7⟩,_⟩:=Ac T1.e;have kqq363:=@Hz _ @nn719;exact qq363):p:=h
theorem nn719(h:p:=by
 have T1:TSt w0 P A w (.cells #[vI k,vI a,vS nm,vI n,vS s,.slice A5 ls.length c5,.slice (some ⟨g,o,none⟩) args.length c6,.slice A7 arms.length c7] 27) #[vI 10,vI a,vI S.n,vI 0,vE,vZ,vZ,vZ] S0 A1 c1 ((x6.setCell ⟨w.heap.size+1+1,0,none⟩ (vI 10)).setCell ⟨w.heap.size+1+1,2,none⟩ (vI S.n)):=(HT.out.set hP HLE.out 0 (vI 10)).set hP HLE.out 2 (vI S.n)
 generalize (x6.setCell ⟨w.heap.size+1+1,0,none⟩ (vI 10)).setCell ⟨w.heap.size+1+1,2,none⟩ (vI S.n)=x7 at *
 clear l0 l1 l2 l3 l4 l5 l6 l7 f0 f1 f2 f3 f4 f5 f6 f7 u0 u1 u2 u3 u4 u5 u6 u7 z0 z1 z2 z3 z4 z5 z6 z7 i0 i1 i2 i3 i4 i5 i6 i7 j0 j1 j2 j3 j4 j5 j6 j7 HT nTR nRT;refine(cT x7 A1 c1 T1.st.1).out.mono ?_;rintro e x8 ⟨k1,a1,v1,n1,s1,B51,n51,e51,B61,n61,e61,B71,n71,e71,A2,c2,rfl,hX1,hst2⟩;have T2:=T1.step hP hst2;have hX2:Au x8 (TOk (w.heap.size+3) A2) X [vI k1,vI a1,vI v1,vI n1,.string ⟨s1⟩,.slice B51 n51 e51,.slice B61 n61 e61,.slice B71 n71 e71]:=hX1.keep (G5 T1.sz (Fr.refl [] _));clear T1 hX1 hst2 cT;have fD:=(Fr.refl [] x8).alloc (.cells #[vI k1,vI a1,vI v1,vI n1,.string ⟨s1⟩,.slice B51 n51 e51,.slice B61 n61 e61,.slice B71 n71 e71] 34);have pDb:=Ag x8 (.cells #[vI k1,vI a1,vI v1,vI n1,.string ⟨s1⟩,.slice B51 n51 e51,.slice B61 n61 e61,.slice B71 n71 e71] 34);have Tb:=T2.fr0 fD;have hXb:=hX2.keep (Oz fD);have hDs:=T2.sz;have hAl:=T2.st.1.own_lt;have hAD:∀ a,A2=some a→a.block≠x8.heap.size:=fun a e=>by have:=hAl a e;omega
 clear T2 hX2 hAl;go_wp2_with fail
 generalize hD:x8.heap.size=D at *
 generalize x8.alloc (.cells #[vI k1,vI a1,vI v1,vI n1,.string ⟨s1⟩,.slice B51 n51 e51,.slice B61 n61 e61,.slice B71 n71 e71] 34)=yb at *
 have kqq228:=@Hz _ @nn428;exact qq228):p:=h
theorem term_10(N:Nat)(ih:TMC N)(k:Int)(hk0:k=10):Rb (N+1) k:=by
 have kqq116:=@Hz _ @nn308;exact qq116
theorem nn3(h:p:=by
 have kqq115:=@Hz _ @nn300;exact qq115):p:=h
theorem nn83(h:p:=by
 obtain⟨⟨i0,i1,i2,i3,i4,i5,i6,i7⟩,_⟩:=Ac T0.e;have HSa:=T0.st.1.fr0 (Fr.refl [] x5).drew;have HSb:=T0.st.1.fr0 ((Fr.refl [] x5).alloc (.cells #[vI 4,vI a,vI 0,vI 0,vE,vZ,vZ,vZ] 34)).drew
 have hnQ:x5.heap.size ∉ scL P A:=fun hx=>by
  have:=T0.sz;exact qq150
 have hTs:=T0.sz;have kqq251:=@Hz _ @nn499;exact qq251):p:=h
theorem nn300(h:p:=by
 have t10:(k==10)=false:=by simp;omega
 have t21:(k==21)=true:=by simp;omega
 have t22:(k==22)=false:=by simp;omega
 have t12:(k==12)=false:=by simp;omega
 have t16:(k==16)=false:=by simp;omega
 have t17:(k==17)=false:=by simp;omega
 have kqq239:=@Hz _ @nn461;exact qq239):p:=h
theorem nn304(h:p:=by
 have hX:tmE (.mk k a nm n s ls args arms) S=(.mk 11 a 0 0 [] [] ((Bf args none S).1++[Ri a 0]) [],(Bf args none S).2.2):=by
  subst hk0;rw[Pr]
 have kqq4:=@Hz _ @nn3;exact qq4):p:=h
theorem nn461(h:p:=by
 have kqq341:=@Hz _ @nn650;exact qq341):p:=h
theorem nn499(h:p:=by
 have nTE:¬ w.heap.size+1+1=w.heap.size:=by omega
 have nET:¬ w.heap.size=w.heap.size+1+1:=by omega
 have HT:=Hz T0;clear T0 m0 m1 m2 m3 y0 y1 y2 y3
 go_region_held3 (fun w'=>w'.cell? ⟨w.heap.size,6,none⟩=some (.slice A6 args.length c6)∧w'.cell? ⟨w.heap.size,1,none⟩=some (vI a)) (first|go_keep|exact M9|exact M7)
  ((first|((with_reducible refine(cT _ HSa).out.mono ?_);rintro e x6 ⟨A9,c9,cs9,A1,c1,he,hR,hst⟩;rw[HLEN.out] at he hR;subst he;have T6:=(HT.out.fr0 (Fr.refl [] x5).drew).step hP hst;have R6:J2 x6 (TOk (w.heap.size+3) A1) (.slice A9 args.length c9) XS cs9:=hR.keep D9 (G5 hTs (Fr.refl [] _));have M7:=T6.e6;have hL1:w.heap.size<x6.heap.size:=Aa T6.e)| ((with_reducible refine(cT _ HSb).out.mono ?_);rintro e x6 ⟨A9,c9,cs9,A1,c1,he,hR,hst⟩;rw[HLEN.out] at he hR;subst he;have Q6:=hst.2.1.keep (w:=(x5.alloc (.cells #[vI 4,vI a,vI 0,vI 0,vE,vZ,vZ,vZ] 34)).drew) (Ag x5 (.cells #[vI 4,vI a,vI 0,vI 0,vE,vZ,vZ,vZ] 34)) hnQ;have T6:=(HT.out.fr0 ((Fr.refl [] x5).alloc (.cells #[vI 4,vI a,vI 0,vI 0,vE,vZ,vZ,vZ] 34)).drew).step hP hst;have R6:J2 x6 (TOk (w.heap.size+3) A1) (.slice A9 args.length c9) XS cs9:=hR.keep D9 (G5 (by show _≤(x5.alloc (.cells #[vI 4,vI a,vI 0,vI 0,vE,vZ,vZ,vZ] 34)).heap.size;rw[World.size_alloc];omega) (Fr.refl [] _));have M7:=T6.e6)| (refine Av rF _ _ 31 rF 34 i0' _ 8 120 underlying31 HI.out HZ0.out HZ1.out HZ2.out rfl dC (.slice A9 args.length c9) args.length (Co cs9 args.length) rF (Gh D9 R6 HLEN.out _) ⟨x6.heap.size,0,none⟩ 1 1 [vI 4,vI a,vI 0,vI 0,vE,vZ,vZ,vZ] rF rfl (World.news_of_block (Ag x6 _)) (by simp[Value.oneCell']) (by simp only[maxLen];omega) oM ?_;intro v9 w9 hown9 hgrow9 hfp9;obtain⟨g9,cp9,hv9⟩:=Cd hown9;subst hv9;have hb9:=TSt.app (okx:=fun _=>False) (T6.fr0 ((Fr.refl [] x6).alloc (.cells #[vI 4,vI a,vI 0,vI 0,vE,vZ,vZ,vZ] 34))) hP HLE.out D9 (R6.keep D9 (Oz ((Fr.refl [] x6).alloc (.cells #[vI 4,vI a,vI 0,vI 0,vE,vZ,vZ,vZ] 34)))) (Au.leaf 4 a 0 0 []) rfl (fun b hb=>False.elim hb) (by rw[HLEN.out];exact hown9) hgrow9 hfp9;obtain⟨R9,T9⟩:=hb9;obtain⟨⟨l0,l1,l2,l3,l4,l5,l6,l7⟩,f0,f1,f2,f3,f4,f5,f6,f7⟩:=Ac T9.t;obtain⟨⟨u0,u1,u2,u3,u4,u5,u6,u7⟩,z0,z1,z2,z3,z4,z5,z6,z7⟩:=Ac T9.r;have M9:=T9.e6)| (refine Av rF _ _ 31 rF 34 i0' _ 8 120 underlying31 HI.out HZ0.out HZ1.out HZ2.out rfl dC (.slice A9 args.length c9) args.length (Co cs9 args.length) rF (by have:=R6.own;rwa [HLEN.out] at this) ⟨x5.heap.size,0,none⟩ 1 1 [vI 4,vI a,vI 0,vI 0,vE,vZ,vZ,vZ] rF rfl (World.news_of_block Q6) (by simp[Value.oneCell']) (by simp only[maxLen];omega) oM ?_;intro v9 w9 hown9 hgrow9 hfp9;obtain⟨g9,cp9,hv9⟩:=Cd hown9;subst hv9;have hb9:=TSt.app (okx:=fun _=>False) T6 hP HLE.out D9 R6 (Au.leaf 4 a 0 0 []) rfl (fun b hb=>False.elim hb) (by rw[HLEN.out];exact hown9) hgrow9 hfp9;obtain⟨R9,T9⟩:=hb9;obtain⟨⟨l0,l1,l2,l3,l4,l5,l6,l7⟩,f0,f1,f2,f3,f4,f5,f6,f7⟩:=Ac T9.t;obtain⟨⟨u0,u1,u2,u3,u4,u5,u6,u7⟩,z0,z1,z2,z3,z4,z5,z6,z7⟩:=Ac T9.r;have M9:=T9.e6)))
 all_goals
  have HT9:=Hz T9;have HR9:=Hz R9;clear T9 R9 T6 R6 hown9 hgrow9 hfp9 M9 M7 hst hR;go_wp2_with fail
  have hZ:Fr [w.heap.size+1,w.heap.size+1+1] w9 ((((((((((w9.setCell ⟨w.heap.size+1+1,0,none⟩ (vI 11)).setCell ⟨w.heap.size+1+1,6,none⟩ (.slice (some ⟨g9,0,none⟩) (args.length+1) cp9)).setCell ⟨w.heap.size+1,0,none⟩ (vI 11)).setCell ⟨w.heap.size+1,1,none⟩ (vI a)).setCell ⟨w.heap.size+1,2,none⟩ (vI 0)).setCell ⟨w.heap.size+1,3,none⟩ (vI 0)).setCell ⟨w.heap.size+1,4,none⟩ (vE)).setCell ⟨w.heap.size+1,5,none⟩ (vZ)).setCell ⟨w.heap.size+1,6,none⟩ (.slice (some ⟨g9,0,none⟩) (args.length+1) cp9)).setCell ⟨w.heap.size+1,7,none⟩ (vZ)):=(((((((((((Fr.refl [w.heap.size+1,w.heap.size+1+1] w9).setCell (p:=⟨w.heap.size+1+1,0,none⟩) (.inl sM) (vI 11)).setCell (p:=⟨w.heap.size+1+1,6,none⟩) (.inl sM) (.slice (some ⟨g9,0,none⟩) (args.length+1) cp9)).setCell (p:=⟨w.heap.size+1,0,none⟩) (.inl sM) (vI 11)).setCell (p:=⟨w.heap.size+1,1,none⟩) (.inl sM) (vI a)).setCell (p:=⟨w.heap.size+1,2,none⟩) (.inl sM) (vI 0)).setCell (p:=⟨w.heap.size+1,3,none⟩) (.inl sM) (vI 0)).setCell (p:=⟨w.heap.size+1,4,none⟩) (.inl sM) (vE)).setCell (p:=⟨w.heap.size+1,5,none⟩) (.inl sM) (vZ)).setCell (p:=⟨w.heap.size+1,6,none⟩) (.inl sM) (.slice (some ⟨g9,0,none⟩) (args.length+1) cp9)).setCell (p:=⟨w.heap.size+1,7,none⟩) (.inl sM) (vZ))
  have hsz:((((((((((w9.setCell ⟨w.heap.size+1+1,0,none⟩ (vI 11)).setCell ⟨w.heap.size+1+1,6,none⟩ (.slice (some ⟨g9,0,none⟩) (args.length+1) cp9)).setCell ⟨w.heap.size+1,0,none⟩ (vI 11)).setCell ⟨w.heap.size+1,1,none⟩ (vI a)).setCell ⟨w.heap.size+1,2,none⟩ (vI 0)).setCell ⟨w.heap.size+1,3,none⟩ (vI 0)).setCell ⟨w.heap.size+1,4,none⟩ (vE)).setCell ⟨w.heap.size+1,5,none⟩ (vZ)).setCell ⟨w.heap.size+1,6,none⟩ (.slice (some ⟨g9,0,none⟩) (args.length+1) cp9)).setCell ⟨w.heap.size+1,7,none⟩ (vZ)).heap.size=w9.heap.size:=by simp[World.setCell]
  have hG:=Aq (x:=(w9.setCell ⟨w.heap.size+1+1,0,none⟩ (vI 11)).setCell ⟨w.heap.size+1+1,6,none⟩ (.slice (some ⟨g9,0,none⟩) (args.length+1) cp9)) ((((Fr.refl [w.heap.size+1+1] w9).setCell (p:=⟨w.heap.size+1+1,0,none⟩) (.inl sM) (vI 11)).setCell (p:=⟨w.heap.size+1+1,6,none⟩) (.inl sM) (.slice (some ⟨g9,0,none⟩) (args.length+1) cp9)).keep HT9.out.r (by simp only[List.mem_singleton];omega)) (vI 11) (vI a) (vI 0) (vI 0) (vE) (vZ) (.slice (some ⟨g9,0,none⟩) (args.length+1) cp9) (vZ);unfold st8 at hG
  generalize (((((((((w9.setCell ⟨w.heap.size+1+1,0,none⟩ (vI 11)).setCell ⟨w.heap.size+1+1,6,none⟩ (.slice (some ⟨g9,0,none⟩) (args.length+1) cp9)).setCell ⟨w.heap.size+1,0,none⟩ (vI 11)).setCell ⟨w.heap.size+1,1,none⟩ (vI a)).setCell ⟨w.heap.size+1,2,none⟩ (vI 0)).setCell ⟨w.heap.size+1,3,none⟩ (vI 0)).setCell ⟨w.heap.size+1,4,none⟩ (vE)).setCell ⟨w.heap.size+1,5,none⟩ (vZ)).setCell ⟨w.heap.size+1,6,none⟩ (.slice (some ⟨g9,0,none⟩) (args.length+1) cp9)).setCell ⟨w.heap.size+1,7,none⟩ (vZ)=Z at *
  have hX9:Au (w9) (TOk (w.heap.size+3) _) _ [vI 11,vI a,vI 0,vI 0,vE,vZ,.slice (some ⟨g9,0,none⟩) (args.length+1) cp9,vZ]:=Au.of_rows (c5:=fun _=>[]) (c7:=fun _=>[]) An.nil_ HR9.out An.nil_;have hfin:=TSt.fin HT9.out hP HLE.out hZ hX9;obtain⟨⟨g0,g1,g2,g3,g4,g5,g6,g7⟩,_⟩:=Ac hG;have hRz:=Aa hG;refine bodyPost_ret (v:=.agg #[vI 11,vI a,vI 0,vI 0,vE,vZ,.slice (some ⟨g9,0,none⟩) (args.length+1) cp9,vZ]) ?_ rfl hfin;exact qq255):p:=h
theorem nn650(h:p:=by
 have hlen:=Hv args none S
 generalize (Bf args none S).1=XS at *
 generalize (Bf args none S).2.2=S2 at *
 have HLEN:=Hz hlen;clear hsz hlen;obtain⟨i0',hi,hz0,hz1,hz2⟩:=info_parts W9;have HI:=Hz hi;have HZ0:=Hz hz0;have HZ1:=Hz hz1;have HZ2:=Hz hz2;clear hi hz0 hz1 hz2;have kqq24:=@Hz _ @nn83;exact qq24):p:=h
theorem term_21(N:Nat)(ih:TMC N)(k:Int)(hk0:k=21):Rb (N+1) k:=by
 have kqq116:=@Hz _ @nn304;exact qq116
theorem Py(p q:Nat)(w:World):
  CallsD prog 76 #[.pointer (some ⟨p,0,none⟩),.pointer (some ⟨q,0,none⟩)] .returning w fun e u' w'=>e = .returned (.tuple #[])∧u' = .returning∧w'=w:=by
 have hnil:∀ w:World,(binOp BinOp.eql 20 .nilIface .nilIface).run prog w = .ok (.bool true) w:=fun _=>by kernel_rfl
 refine callsD_of_wpS func76 rfl fun c₀ cs hu=>?_
 apply wpS_seq;apply wpS_region;simp[wpOpsS,go_sem,recoverD,hu,ntmps76,Exit.thenS];refine wpS_of_wp ?_;show Code.wp _ _ _ { tmps:=#[.pointer (some ⟨p,0,none⟩),.pointer (some ⟨q,0,none⟩),undef,undef,undef,undef,undef,.nilIface,undef,undef,undef,undef,undef,undef,undef,undef,undef,undef,undef],defers:=[] } w;refine wp_mono (Q:=fun e a' w'=>e = .normal∧a'.defers=[]∧w'=w) ?_ ?_
 ·go_wp2_with fail
 ·rintro e a' w' ⟨rfl,h0,rfl⟩;cases c₀;simp_all [bodyPostS,results,Tryz.results76,Exit.thenS]
theorem Ws(p q:Nat)(w:World)(hp:w.heap[p]?=some (.cells #[.string ⟨#[]⟩] 9 (0,0)))(hq:w.heap[q]?=some (.cells #[.int .i64 0] 28 (0,0)))(hne:p≠q):
  CallsD prog 76 #[.pointer (some ⟨p,0,none⟩),.pointer (some ⟨q,0,none⟩)] (.panicking fl) w fun e u' w'=>e = .returned (.tuple #[])∧u' = .panicking (fl.map fun x=>{ x with recovered:=true })∧Fr [p,q] w w'∧w'.heap[p]?=some (.cells #[.string ⟨#[]⟩] 9 (0,0))∧w'.heap[q]?=some (.cells #[.int .i64 5] 28 (0,0)):=by
 have hta:∀ w:World,(Instr.typeAssert (.iface 172 (.agg #[.int .i64 5])) 20 172 true).run prog w = .ok (.tuple #[.agg #[.int .i64 5],.bool true]) w:=fun _=>by kernel_rfl
 refine callsD_of_wpS func76 rfl fun c₀ cs hu=>?_
 apply wpS_seq;apply wpS_region;simp[wpOpsS,go_sem,recoverD,hu,fl,ntmps76,Exit.thenS];refine wpS_of_wp ?_;show Code.wp _ _ _ { tmps:=#[.pointer (some ⟨p,0,none⟩),.pointer (some ⟨q,0,none⟩),undef,undef,undef,undef,undef,.iface 172 (.agg #[.int .i64 5]),undef,undef,undef,undef,undef,undef,undef,undef,undef,undef,undef],defers:=[] } w;refine wp_mono (Q:=fun e a' w'=>e = .normal∧a'.defers=[]∧Fr [p,q] w w'∧w'.heap[p]?=some (.cells #[.string ⟨#[]⟩] 9 (0,0))∧w'.heap[q]?=some (.cells #[.int .i64 5] 28 (0,0))) ?_ ?_
 ·go_wp2_with fail;have hX:=Ag w (.cells #[.int .i64 5] 172);have c5:(w.alloc (.cells #[.int .i64 5] 172)).cell? ⟨w.heap.size,0,none⟩=some (.int .i64 5):=Ab hX 0;have hp1:=Aa hp;have hq1:=Aa hq;have cp:w.cell? ⟨p,0,none⟩=some (.string ⟨#[]⟩):=Ab hp 0;have cq:w.cell? ⟨q,0,none⟩=some (.int .i64 0):=Ab hq 0;have fp:=Ap hp 0;have fq:=Ap hq 0;have hne':¬ q=p:=fun e=>hne e.symm
  go_region
  have h1:=Cl hp 0 (.string ⟨#[]⟩);have h2:((w.setCell ⟨p,0,none⟩ (.string ⟨#[]⟩)).setCell ⟨q,0,none⟩ (.int .i64 5)).heap[p]?=_:=(Below.heap_setCell _ ⟨q,0,none⟩ _ p hne).trans h1;have h3:=Cl ((Below.heap_setCell w ⟨p,0,none⟩ (.string ⟨#[]⟩) q (Ne.symm hne)).trans hq) 0 (.int .i64 5);exact⟨rfl,rfl,((((Fr.refl [p,q] w).setCell (.inl sM) _).setCell (.inl sM) _).alloc _).drew,Ae h2 _,Ae h3 _⟩
 ·rintro e a' w' ⟨rfl,h0,h1,h2,h3⟩;cases c₀;simp_all [bodyPostS,results,Tryz.results76,Exit.thenS]
theorem WB.fresh(w:World):WB w w.heap.size [] [] (w.alloc (.cells #[.pointer none,.slice none 0 0] TW)):=
 ⟨none,L4.fresh TW w,(fun _ h=>by cases h),Nr' _,(Fr.refl [] w).alloc _,(fun _ _ h=>by cases h)⟩
theorem toldE_any(T:Nat)(t:List UInt8)(O:Bool)(w:World)(ht0:O=true→t≠[])(hc:∀ w2,Fr [] w w2→∀ P wr,WB w2 P [] [] wr→Calls prog 36 #[.pointer (some ⟨P,0,none⟩),.pointer (some ⟨T,0,none⟩)] wr (Sd w2 P [] t O)):
  Calls prog 35 #[.func (.func 36) #[] #[.pointer (some ⟨T,0,none⟩)]] w fun e w'=>e = .returned (.tuple #[.string ⟨(Mt O t).1.toArray⟩,.int .i64 (Mt O t).2])∧Fr [] w w':=by
 have HC:=Lib.hid hc;have HT0:=Lib.hid ht0;clear hc ht0
 go_enter_defers func35,ntmps35
 go_wp2_with fail;have f2:Fr [] w ((w.alloc (.cells #[.string ⟨#[]⟩] 9)).alloc (.cells #[.int .i64 0] 28)):=((Fr.refl [] w).alloc _).alloc _;have q0:=Ae (Ag w (.cells #[.string ⟨#[]⟩] 9)) (.cells #[.int .i64 0] 28);have q1:=Ag (w.alloc (.cells #[.string ⟨#[]⟩] 9)) (.cells #[.int .i64 0] 28);have hb:=WB.fresh ((w.alloc (.cells #[.string ⟨#[]⟩] 9)).alloc (.cells #[.int .i64 0] 28));rw[show(w.alloc (.cells #[.string ⟨#[]⟩] 9)).heap.size=w.heap.size+1 by simp] at q1;have hP:((w.alloc (.cells #[.string ⟨#[]⟩] 9)).alloc (.cells #[.int .i64 0] 28)).heap.size=w.heap.size+1+1:=by simp
 rw[hP] at hb
 generalize hw2:(w.alloc (.cells #[.string ⟨#[]⟩] 9)).alloc (.cells #[.int .i64 0] 28)=w2 at *
 have hT:=Aa q1
 generalize hB:w.heap.size=B at *
 refine(HC.out _ f2 _ _ hb).mono ?_;clear hb;rintro e w3 (⟨rfl,rfl,hb⟩| ⟨rfl,rfl,hf⟩)
 ·go_wp2_with fail;refine hb.len.mono ?_;rintro e w4 ⟨rfl,rfl⟩;have hf:=hb.frame
  by_cases hl:(4096:Int)<(t.length:Int)
  ·have eR:Mt true t=([],4):=by simp[Mt];omega
   have k0:=hf.keep q0 nE;have k1:=hf.keep q1 nE;have c0:=Ab k0 0;have c1:=Ab k1 0;have z0:=Ap k0 0;have z1:=Ap k1 0;clear hb;go_wp2_with fail;have h0:=(Below.heap_setCell (w4.setCell ⟨B,0,none⟩ (.string ⟨#[]⟩)) ⟨B+1,0,none⟩ (.int .i64 4) B sM).trans (Cl k0 0 (.string ⟨#[]⟩));have h1:=Cl ((Below.heap_setCell w4 ⟨B,0,none⟩ (.string ⟨#[]⟩) (B+1) sM).trans k1) 0 (.int .i64 4);have hF:=((hf.mono (L':=[B,B+1]) (fun _ h=>by cases h)).setCell (p:=⟨B,0,none⟩) (.inl sM) (.string ⟨#[]⟩)).setCell (p:=⟨B+1,0,none⟩) (.inl sM) (.int .i64 4);exact qq113
  ·have eR:Mt true t=(t,0):=by simp[Mt];omega
   go_wp2_with fail;refine(hb.string (HT0.out sM)).mono ?_;rintro e w5 ⟨rfl,hf⟩;have k0:=hf.keep q0 nE;have k1:=hf.keep q1 nE;have c0:=Ab k0 0;have c1:=Ab k1 0;have z0:=Ap k0 0;have z1:=Ap k1 0;clear hb;go_wp2_with fail;have h0:=(Below.heap_setCell (w5.setCell ⟨B,0,none⟩ (.string ⟨t.toArray⟩)) ⟨B+1,0,none⟩ (.int .i64 0) B sM).trans (Cl k0 0 (.string ⟨t.toArray⟩));have h1:=Cl ((Below.heap_setCell w5 ⟨B,0,none⟩ (.string ⟨t.toArray⟩) (B+1) sM).trans k1) 0 (.int .i64 0);have hF:=((hf.mono (L':=[B,B+1]) (fun _ h=>by cases h)).setCell (p:=⟨B,0,none⟩) (.inl sM) (.string ⟨t.toArray⟩)).setCell (p:=⟨B+1,0,none⟩) (.inl sM) (.int .i64 0);exact qq113
 ·have eR:Mt false t=([],5):=rfl;have k0:=hf.keep q0 nE;have k1:=hf.keep q1 nE;have c0:=Ab k0 0;have c1:=Ab k1 0;have z0:=Ap k0 0;have z1:=Ap k1 0;go_wp2_with fail;refine leaves_cons (f:=76) (args:=#[.pointer (some ⟨B,0,none⟩),.pointer (some ⟨B+1,0,none⟩)]) sM (by simp[go_sem]) ?_;refine(Ws B (B+1) _ k0 k1 oM).mono ?_;rintro e u' w'' ⟨rfl,rfl,hF,h0,h1⟩;have c0:=Ab h0 0;have c1:=Ab h1 0;simp[Leaves,settle,results,fl,Tryz.results35,go_sem,c0,c1];exact⟨by rw[eR];exact⟨rfl,rfl⟩,f2.step (((hf.mono (L':=[B,B+1]) (fun _ h=>by cases h))).trans hF) (fun x hx => .inr (by simp at hx;omega))⟩
theorem txE_ne{x:Ad}(h:Bh x=true):txE x≠[]:=fun e=>by
 have h1:=text_toks h;rw[e] at h1;obtain⟨⟨q,r,hq,_⟩,_⟩:=Wz _ x (Nat.lt_succ_self _) h;rw[hq] at h1;have h2:Az []=some [(0,[],0)]:=rfl;rw[h2] at h1;have:=congrArg (fun o=>(o.getD []).length) h1;simp at this
theorem ShowF_any(w2:World)(ok:Nat→Prop)(P T:Nat)(k a:Int)(nm:LB)(n:Int)(s:LB)(ls:List LB)(args:List Ad)(arms:List (Al×Ad))(A5 A6 A7:Option Addr)(c5 c6 c7:Nat)(wr:World)(hV:E1 w2)(hsz:szE (.mk k a nm n s ls args arms)≤1048576)(hs:SwE (.mk k a nm n s ls args arms))(hx:Ak w2 ok (.mk k a nm n s ls args arms) [vI k,vI a,vS nm,vI n,vS s,.slice A5 ls.length c5,.slice A6 args.length c6,.slice A7 arms.length c7])(hb:WB w2 P [] [] wr)(hq:wr.heap[T]?=some (.cells #[vI k,vI a,vS nm,vI n,vS s,.slice A5 ls.length c5,.slice A6 args.length c6,.slice A7 arms.length c7] 27 (0,0))):
  Calls prog 36 #[.pointer (some ⟨P,0,none⟩),.pointer (some ⟨T,0,none⟩)] wr (Sd w2 P [] (txE (.mk k a nm n s ls args arms)) (Bh (.mk k a nm n s ls args arms))):=by
 have cE:=Hz (Wx w2 ok P hV 1048577 oM k a nm n s ls args arms A5 A6 A7 c5 c6 c7 [] [] wr oM hs hx hb (by have:=txE_bd _ hs;simp;omega));rw[List.nil_append] at cE
 generalize txE (.mk k a nm n s ls args arms)=t at *
 generalize Bh (.mk k a nm n s ls args arms)=O at *
 clear hsz hs hx hb hV;obtain⟨⟨l0,l1,l2,l3,l4,l5,l6,l7⟩,_⟩:=Ac hq;go_enter func36,ntmps36;go_wp2_with fail;refine cE.out.mono ?_;rintro e w3 (⟨hok,rfl,hb⟩| ⟨hok,rfl,hf⟩)
 ·go_wp2_with fail
  go_end0
  exact Sd.done (by simp[hok]) rfl hb
 ·exact qq172
theorem nn545(h:p:=by
 go_enter func19,ntmps19;go_wp2_with fail
 generalize w.alloc (.cells #[vI k,vI a,vS nm,vI n,vS s,.slice A5 ls.length c5,.slice A6 args.length c6,.slice A7 arms.length c7] 27)=x at *
 generalize hT:w.heap.size=T at *
 refine(cC _ (kE f0)).out.mono ?_;rintro e w2 ⟨rfl,f2⟩;have F2:=f0.trans f2;replace q0:=f2.keep q0 nE;clear f0 f2;obtain⟨⟨l0,l1,l2,l3,l4,l5,l6,l7⟩,_⟩:=Ac q0;by_cases hz:4096<Z
 ·have hR:R=([],3):=by rw[HR.out,if_pos hz]
  have z:(4096:Int)<min (Z:Int) (4096+1):=by omega
  subst hR;clear HR;go_wp2_with fail;go_ret2;exact⟨rfl,F2⟩
 ·have z:¬ (4096:Int)<min (Z:Int) (4096+1):=by omega
  go_wp2_with fail;refine(cD _ (kE F2)).out.mono ?_;rintro e w3 ⟨he,f3⟩;have F3:=F2.trans f3;replace q0:=f3.keep q0 nE;clear F2 f3;clear l0 l1 l2 l3 l4 l5 l6 l7;obtain⟨⟨l0,l1,l2,l3,l4,l5,l6,l7⟩,_⟩:=Ac q0
  cases hd:Hj 200 (.mk k a nm n s ls args arms)with
  | some p =>
   have hR:R=([],22):=by rw[HR.out,if_neg hz,hd];rfl
   rw[hd] at he;subst he hR;clear HR hd;go_wp2_with fail;go_ret2
   exact⟨rfl,F3⟩
  | none =>
   have hR:R=Mt O t:=by rw[HR.out,if_neg hz,hd];rfl
   rw[hd] at he;subst he hR;clear HR hd;have cTo:=Hz (toldE_any T t O w3 HNE.out (fun w4 hf P wr hb=>(cS w4 P T wr (HV.out.fr (F3.trans hf)) oM (kE (F3.trans hf)) hb ((hf.trans hb.frame).keep q0 nE)).out));go_wp2_with fail;refine cTo.out.mono ?_;rintro e w4 ⟨rfl,f4⟩;go_wp2_with fail;go_ret2;exact⟨rfl,F3.trans f4⟩):p:=h
theorem Show_any(k a:Int)(nm:LB)(n:Int)(s:LB)(ls:List LB)(args:List Ad)(arms:List (Al×Ad))(A5 A6 A7:Option Addr)(c5 c6 c7:Nat)(w:World)(hV:E1 w)(hx:Ak w (fun b=>b<w.heap.size) (.mk k a nm n s ls args arms) [vI k,vI a,vS nm,vI n,vS s,.slice A5 ls.length c5,.slice A6 args.length c6,.slice A7 arms.length c7])(hsz:szE (.mk k a nm n s ls args arms)≤1099511627775)(hs:SwE (.mk k a nm n s ls args arms)):
  Calls prog 19 #[.agg #[vI k,vI a,vS nm,vI n,vS s,.slice A5 ls.length c5,.slice A6 args.length c6,.slice A7 arms.length c7]] w fun e w'=>e = .returned (.tuple #[.string ⟨(O0 (.mk k a nm n s ls args arms)).1.toArray⟩,vI (O0 (.mk k a nm n s ls args arms)).2])∧Fr [] w w':=by
 have HV:=Hz hV;have HS:=Hz hs;have HX:=Hz hx;have HZ:=Hz hsz;have cC:=fun w hx=>Hz (Tl k a nm n s ls args arms A5 ls.length c5 A6 args.length c6 A7 arms.length c7 4096 oM oM w hx HZ.out)
 have cD:=fun w hx=>Hz (V8 k a nm n s ls args arms A5 ls.length c5 A6 args.length c6 A7 arms.length c7 200 w hx HZ.out)
 have HR:Hid (O0 (.mk k a nm n s ls args arms)=if 4096<szE (.mk k a nm n s ls args arms)then ([],3)else if (Hj 200 (.mk k a nm n s ls args arms)).isSome=true then ([],22)else Mt (Bh (.mk k a nm n s ls args arms)) (txE (.mk k a nm n s ls args arms))):=Hz rfl;have q0:=Ag w (.cells #[vI k,vI a,vS nm,vI n,vS s,.slice A5 ls.length c5,.slice A6 args.length c6,.slice A7 arms.length c7] 27);have f0:=(Fr.refl [] w).alloc (.cells #[vI k,vI a,vS nm,vI n,vS s,.slice A5 ls.length c5,.slice A6 args.length c6,.slice A7 arms.length c7] 27);have kE:∀ {w'},Fr [] w w'→Ak w' (fun b=>b<w'.heap.size) (.mk k a nm n s ls args arms) [vI k,vI a,vS nm,vI n,vS s,.slice A5 ls.length c5,.slice A6 args.length c6,.slice A7 arms.length c7]:=fun hf=>HX.out.fr hf
 have cS:=fun w2 P T wr hV hz hx hb hq=>Hz (ShowF_any w2 (fun b=>b<w2.heap.size) P T k a nm n s ls args arms A5 A6 A7 c5 c6 c7 wr hV hz HS.out hx hb hq)
 have HNE:Hid (Bh (.mk k a nm n s ls args arms)=true→txE (.mk k a nm n s ls args arms)≠[]):=Hz (fun h=>txE_ne h)
 generalize O0 (.mk k a nm n s ls args arms)=R at *
 generalize szE (.mk k a nm n s ls args arms)=Z at *
 generalize txE (.mk k a nm n s ls args arms)=t at *
 generalize Bh (.mk k a nm n s ls args arms)=O at *
 clear hV hs hx hsz;have kqq281:=@Hz _ @nn545;exact qq281
end
end Go.Proofs.YtlafbbnikgcdlaaGreatDoor
