/- A part of the proof: He, Hf, Hg, Hh. -/
import Derived.Test.YtabhpdhajajoiaaGreatDoorEb23
namespace Go.Proofs.YtabhpdhajajoiaaGreatDoor
open Go.RowKit
set_option linter.all false
set_option maxHeartbeats 16000000
set_option maxRecDepth 100000
open List renaming length_cons→Lc',length_append→La',length_nil→Ln',append_assoc→Ls'
open Nat renaming le_refl→Nr'
open Bool renaming and_eq_true→Ba'
theorem Run.mustT{ts:List Tok}{i:Nat}{t:Tok}(ht:ts[i]?=some t){s:LB}(hb:isB t true [s]=true){k:Cmd}{r:Rs}{st':St}(h:Run ts k ⟨i+1,true⟩ r st'):Run ts (Bv s k) ⟨i,true⟩ r st':=.mustY ht hb h
theorem Run.nameT{ts:List Tok}{i a:Nat}{nm:LB}{n:Int}(ht:ts[i]?=some ⟨1,a,nm,n⟩){k:LB→Cmd}{r:Rs}{st':St}(h:Run ts (k nm) ⟨i+1,true⟩ r st'):Run ts (Fv k) ⟨i,true⟩ r st':=by
 refine .look ht ?_;rw[if_pos (by rfl)];exact .adv h
theorem nth_app{α:Type}{a b:List α}{j:Nat}{q:α}(h:b[j]?=some q):(a++b)[a.length+j]?=some q:=by
 rw[List.getElem?_append_right (by omega),Nat.add_sub_cancel_left];exact h
theorem B6.mid{us:List Tok}{i:Nat}{a b:List Sp}{q:Sp}(h:B6 us i (a++q::b)):∃ c,us[i+a.length]?=some ⟨q.1,c,q.2.1,q.2.2⟩:=h a.length q (by have:=nth_app (a:=a) (b:=q::b) (j:=0) rfl;simpa only[Nat.add_zero] using this)
theorem B6.rest{us:List Tok}{i:Nat}{a b:List Sp}{q:Sp}(h:B6 us i (a++q::b)):B6 us (i+a.length+1) b:=h.right.tail
theorem SL.cons_{α:Type}{R:α→α→Prop}{x y:α}{l l':List α}(hx:R x y)(h:SL R l l'):SL R (x::l) (y::l'):=⟨by simp[h.1],fun i u v hu hv=>by
 cases i with
 | zero=>simp at hu hv;subst hu;subst hv;exact hx
 | succ i=>exact h.2 i u v (by simpa using hu) (by simpa using hv)⟩
theorem Ml(a:Int)(ls:List LB)(args:List Ak):Cn (.recL a ls args)=Fv fun x=>Bv [61] (.callP .pat fun p=>Cl [44] fun b=>if b=true then .callP (.recL a (ls++[x]) (args++[p])) .retP else Bv [125] (.retP (.mk 9 a [] 0 [] (ls++[x]) (args++[p])))):=rfl
theorem Mk(a:Int)(ls:List LB)(args:List Ab):body (.recL a ls args)=Fv fun nm=>Bv [61] (.callE .seq fun x=>Cl [44] fun b=>if b=true then .callE (.recL a (ls++[nm]) (args++[x])) .retE else Bv [125] (.retE (.mk 12 a [] 0 [] (ls++[nm]) (args++[x]) []))):=rfl
theorem H9(a:Int):body (.braces a)=Cl [125] fun b=>if b=true then .retE (.mk 12 a [] 0 [] [] [] [])else
  .ahead fun n => .look fun t ok=>if (t.k==1&&(n.k==7&&n.text==[61]))=true then (if ok=true then .callE (.recL a [] []) .retE else Bv [125] (.retE (.mk 12 a [] 0 [] [] [] [])))else
   .callE .seq fun x=>Bv [119,105,116,104] (Fv fun nm=>Bv [61] (.callE .seq fun y=>Bv [125] (.retE (.mk 13 a nm 0 [] [] [x,y] [])))):=rfl
theorem Nh(a:Int):Cn (.marked (.mk 0 a [] 0 [] [] []))=Cl [45] fun b=>if b=true then (.look fun t ok=>if t.k=4 then (if ok=true then .adv (.retP (.mk 3 a [] (wrap64 (-t.n)) [] [] []))else .retP (.mk 3 a [] (wrap64 (-t.n)) [] [] []))else .fail (.retP (.mk 3 a [] 0 [] [] [])))else
  Cl [116,114,117,101] fun b=>if b=true then .retP (.mk 5 a [] 1 [] [] [])else
  Cl [102,97,108,115,101] fun b=>if b=true then .retP (.mk 5 a [] 0 [] [] [])else
  Cl [40] fun b=>if b=true then (Cl [41] fun b=>if b=true then .retP (.mk 6 a [] 0 [] [] [])else .callP .pat fun x=>Bv [41] (.retP x))else
  Cl [123] fun b=>if b=true then (Cl [125] fun b=>if b=true then .retP (.mk 9 a [] 0 [] [] [])else .look fun _ ok=>if ok=true then .callP (.recL a [] []) .retP else Bv [125] (.retP (.mk 9 a [] 0 [] [] [])))else
  .fail (.retP (.mk 0 a [] 0 [] [] [])):=rfl
def PatR(x:Ak):Prop:=∀ (us:List Tok)(i:Nat),B6 us i (tkP x)→∃ y,D8 x y∧Run us (Cn .patom) ⟨i,true⟩ (.p y) ⟨i+(tkP x).length,true⟩
theorem precL{us:List Tok}{a:Int}:∀ (ls:List LB)(xs:List Ak),ls.length=xs.length→ls≠[]→(∀ (i:Nat)(x:Ak),xs[i]?=some x→PatR x∧∃ q r,tkP x=q::r∧q.1≠3)→∀ (i:Nat)(al:List LB)(ax:List Ak),B6 us i (Ej true ls (Fm xs)++[G [125]])→
  ∃ ys,SL D8 xs ys∧Run us (Cn (.recL a al ax)) ⟨i,true⟩ (.p (.mk 9 a [] 0 [] (al++ls) (ax++ys))) ⟨i+(Ej true ls (Fm xs)).length+1,true⟩
 | [],_,_,h,_,_,_,_,_=>absurd rfl h
 | _::_,[],h,_,_,_,_,_,_=>by simp at h
 | l::ls,x::xs,hl,_,hp,i,al,ax,hs=>by
  obtain⟨hx,q0,r0,hq0,hq3⟩:=hp 0 x rfl;have e0:Ej true (l::ls) (Fm (x::xs))=(1,l,0)::G [61]::(tkP x++Ej false ls (Fm xs)):=by rw[Fm];rfl
  rw[e0] at hs ⊢;obtain⟨a0,t0⟩:=hs.head;obtain⟨a1,t1⟩:=hs.tail.head;have h2:B6 us (i+1+1) (tkP x++Ej false ls (Fm xs)++[G [125]]):=hs.tail.tail;rw[Ls'] at h2;obtain⟨y,hy,hr⟩:=hx us (i+1+1) h2.left
  have hpat:Run us (Cn .pat) ⟨i+1+1,true⟩ (.p y) ⟨i+1+1+(tkP x).length,true⟩:=by
   have h3:=h2.left;rw[hq0] at h3;obtain⟨a3,t3⟩:=h3.head;refine .look t3 ?_;simp only;rw[show(true&&(q0.1==3))=false by rw[Bool.true_and];exact bN.2 hq3,if_neg (by decide)];exact .callP hr .retP
  by_cases hne:ls=[]
  ·subst hne;have hxs:xs=[]:=by cases xs with|nil=>rfl|cons _ _=>simp at hl
   subst hxs;have e1:Ej false [] (Fm [])=[]:=rfl;rw[e1] at h2 ⊢;rw[List.append_nil];obtain⟨a4,t4⟩:=h2.mid;refine⟨[y],SL.one hy,?_⟩;rw[Ml];refine Run.nameT t0 (Run.mustT t1 (by rfl) (.callP hpat (Run.mayN t4 (by rfl) ?_)));rw[if_neg (by decide)];have:=Run.mustT (ts:=us) (s:=[125]) (k:=.retP (.mk 9 a [] 0 [] (al++[l]) (ax++[y]))) t4 (by rfl) .retP;rw[show i+(((1,l,0):Sp)::G [61]::tkP x).length+1=i+1+1+(tkP x).length+1 by simp only[Lc'];omega];exact this
  ·have e1:Ej false ls (Fm xs)=G [44]::Ej true ls (Fm xs):=by
    cases ls with
    | nil=>exact absurd rfl hne
    | cons l2 ls=>cases xs with
     | nil=>simp at hl
     | cons x2 xs=>rw[Fm];rfl
   rw[e1] at h2 ⊢;obtain⟨a4,t4⟩:=B6.mid (b:=Ej true ls (Fm xs)++[G [125]]) h2;obtain⟨ys,hys,hr2⟩:=precL (a:=a) ls xs (by simpa using hl) hne (fun i x hi=>hp (i+1) x (by simpa using hi)) (i+1+1+(tkP x).length+1) (al++[l]) (ax++[y]) (B6.rest (b:=Ej true ls (Fm xs)++[G [125]]) h2);refine⟨y::ys,SL.cons_ hy hys,?_⟩;rw[Ml];refine Run.nameT t0 (Run.mustT t1 (by rfl) (.callP hpat (Run.mayY t4 (by rfl) ?_)));rw[if_pos rfl];rw[show i+(((1,l,0):Sp)::G [61]::(tkP x++G [44]::Ej true ls (Fm xs))).length+1=i+1+1+(tkP x).length+1+(Ej true ls (Fm xs)).length+1 by simp only[Lc',La'];omega];have e2:al++l::ls=al++[l]++ls:=by simp
   have e3:ax++y::ys=ax++[y]++ys:=by simp
   rw[e2,e3];exact .callP hr2 .retP
theorem Iv{us:List Tok}{i:Nat}{t:Tok}(ht:us[i]?=some t)(hk:t.k=6∨t.k=7){x:Ak}{st':St}(h:Run us (Cl [45] fun b=>if b=true then (.look fun q ok=>if q.k=4 then (if ok=true then .adv (.retP (.mk 3 t.at' [] (wrap64 (-q.n)) [] [] []))else .retP (.mk 3 t.at' [] (wrap64 (-q.n)) [] [] []))else .fail (.retP (.mk 3 t.at' [] 0 [] [] [])))else
  Cl [116,114,117,101] fun b=>if b=true then .retP (.mk 5 t.at' [] 1 [] [] [])else
  Cl [102,97,108,115,101] fun b=>if b=true then .retP (.mk 5 t.at' [] 0 [] [] [])else
  Cl [40] fun b=>if b=true then (Cl [41] fun b=>if b=true then .retP (.mk 6 t.at' [] 0 [] [] [])else .callP .pat fun x=>Bv [41] (.retP x))else
  Cl [123] fun b=>if b=true then (Cl [125] fun b=>if b=true then .retP (.mk 9 t.at' [] 0 [] [] [])else .look fun _ ok=>if ok=true then .callP (.recL t.at' [] []) .retP else Bv [125] (.retP (.mk 9 t.at' [] 0 [] [] [])))else
  .fail (.retP (.mk 0 t.at' [] 0 [] [] []))) ⟨i,true⟩ (.p x) st'):Run us (Cn .patom) ⟨i,true⟩ (.p x) st':=by
 rw[← Nh] at h;refine .look ht ?_;simp only;rw[if_neg (by decide),if_neg (by omega),if_neg (by omega),if_neg (by omega),if_neg (by omega)];exact .callP h .retP
theorem M0{x:Ak}(h:Ct x=true):∃ q r,tkP x=q::r∧q.1≠3:=by
 cases x with
 | mk k a nm n s ls args =>
 rw[Ct,Ba'] at h;have hf:=h.1;rw[tkP];generalize args.length=na at hf
 cases Sq hf with
 | any=>exact⟨_,_,rfl,by simp[G,W]⟩
 | var h=>exact⟨_,_,rfl,by simp[G,W]⟩
 | int h =>
  by_cases h0:n<0
  ·exact⟨G [45],[(4,[],-n)],by simp[Jt,h0],by simp[G]⟩
  ·exact⟨(4,[],n),[],by simp[Jt,h0],by simp[G]⟩
 | str=>exact⟨_,_,rfl,by simp[G,W]⟩
 | bool h=>exact⟨_,_,rfl,by simp[G,W]⟩
 | unit=>exact⟨_,_,rfl,by simp[G,W]⟩
 | exn h=>exact⟨_,_,rfl,by simp[G,W]⟩
 | tag h=>exact⟨_,_,rfl,by simp[G,W]⟩
 | record h=>exact⟨_,_,rfl,by simp[G,W]⟩
theorem patR:∀ (N:Nat)(x:Ak),szP x<N→Ct x=true→PatR x
 | 0,_,h,_=>absurd h (Nat.not_lt_zero _)
 | N+1,.mk k a nm n s ls args,hlt,hm=>by
  have hsz:szP (.mk k a nm n s ls args)=1+Ey args:=by simp[szP]
  rw[Ct,Ba'] at hm;obtain⟨hf,hm⟩:=hm;have IH:∀ (i:Nat) (x:Ak),args[i]?=some x→PatR x:=fun i x hx=>patR N x (by have:=Gz hx;omega) (Kc hm i x hx)
  have IFst:∀ (i:Nat) (x:Ak),args[i]?=some x→∃ q r,tkP x=q::r∧q.1≠3:=fun i x hx=>M0 (Kc hm i x hx)
  intro us i hs;rw[tkP] at hs ⊢;generalize hna:args.length=na at hf
  cases Sq hf with
  | any =>
   obtain rfl:=Ck hna;obtain⟨a0,t0⟩:=hs.head;refine⟨.mk 1 a0 [] 0 [] [] [],sPl,.look t0 ?_⟩;simp only;rw[if_neg (by decide),if_pos trivial,if_pos trivial]
   exact .adv .retP
  | var h hu =>
   obtain rfl:=Ck hna;obtain⟨a0,t0⟩:=hs.head;refine⟨.mk 2 a0 nm 0 [] [] [],sPl,.look t0 ?_⟩;simp only;rw[if_neg (by decide),if_pos trivial,if_neg hu]
   exact .adv .retP
  | int h =>
   obtain rfl:=Ck hna;by_cases h0:n<0
   ·have e:Jt 3 [] n [] [] (Fm [])=[G [45],(4,[],-n)]:=by simp[Jt,h0]
    rw[e] at hs ⊢;obtain⟨a0,t0⟩:=hs.head;obtain⟨a1,t1⟩:=hs.tail.head;refine⟨.mk 3 a0 [] n [] [] [],sPl,Iv t0 (.inr rfl) (Run.mayY t0 (by rfl) ?_)⟩;rw[if_pos rfl];refine .look t1 ?_;simp only;rw[if_pos trivial,if_pos trivial]
    have ew:wrap64 (-(-n))=n:=by
     have h1:=h.1;unfold Ea at h1;unfold wrap64;omega
    rw[ew];exact .adv .retP
   ·have e:Jt 3 [] n [] [] (Fm [])=[(4,[],n)]:=by simp[Jt,h0]
    rw[e] at hs ⊢;obtain⟨a0,t0⟩:=hs.head;refine⟨.mk 3 a0 [] n [] [] [],sPl,.look t0 ?_⟩;simp only;rw[if_neg (by decide),if_neg (by decide),if_neg (by decide),if_pos trivial]
    exact .adv .retP
  | str =>
   obtain rfl:=Ck hna;obtain⟨a0,t0⟩:=hs.head;refine⟨.mk 4 a0 [] 0 s [] [],sPl,.look t0 ?_⟩;simp only;rw[if_neg (by decide),if_neg (by decide),if_neg (by decide),if_neg (by decide),if_pos trivial]
   exact .adv .retP
  | bool h =>
   obtain rfl:=Ck hna;obtain⟨a0,t0⟩:=hs.head;refine⟨.mk 5 a0 [] n [] [] [],sPl,Iv t0 (.inl rfl) ?_⟩;rcases h with rfl|rfl
   ·refine Run.mayN t0 (by rfl) ?_;rw[if_neg (by decide)];refine Run.mayN t0 (by rfl) ?_;rw[if_neg (by decide)];refine Run.mayY t0 (by rfl) ?_;rw[if_pos rfl];exact .retP
   ·refine Run.mayN t0 (by rfl) ?_;rw[if_neg (by decide)];refine Run.mayY t0 (by rfl) ?_;rw[if_pos rfl]
    exact .retP
  | unit =>
   obtain rfl:=Ck hna;obtain⟨a0,t0⟩:=hs.head;obtain⟨a1,t1⟩:=hs.tail.head;refine⟨.mk 6 a0 [] 0 [] [] [],sPl,Iv t0 (.inr rfl) ?_⟩;refine Run.mayN t0 (by rfl) ?_;rw[if_neg (by decide)];refine Run.mayN t0 (by rfl) ?_;rw[if_neg (by decide)];refine Run.mayN t0 (by rfl) ?_;rw[if_neg (by decide)];refine Run.mayY t0 (by rfl) ?_;rw[if_pos rfl];refine Run.mayY t1 (by rfl) ?_;rw[if_pos rfl]
   exact .retP
  | exn h =>
   obtain rfl:=Ck hna;obtain⟨a0,t0⟩:=hs.head;refine⟨.mk 7 a0 nm 0 [] [] [],sPl,.look t0 ?_⟩;simp only;rw[if_neg (by decide),if_neg (by decide),if_pos trivial]
   exact .adv .retP
  | tag h =>
   obtain⟨x0,rfl⟩:=Ei hna;have e:Jt 8 nm 0 [] [] (Fm [x0])=G [40]::(3,nm,0)::(tkP x0++[G [41]]):=by simp[Jt,Fm]
   rw[e] at hs ⊢;obtain⟨a0,t0⟩:=hs.head;obtain⟨a1,t1⟩:=hs.tail.head;have h2:=hs.tail.tail;obtain⟨y,hy,hr⟩:=IH 0 x0 rfl us _ h2.left;obtain⟨a3,t3⟩:=h2.mid;refine⟨.mk 8 a1 nm 0 [] [] [y],sP (SL.one hy),Iv t0 (.inr rfl) ?_⟩;refine Run.mayN t0 (by rfl) ?_;rw[if_neg (by decide)];refine Run.mayN t0 (by rfl) ?_;rw[if_neg (by decide)];refine Run.mayN t0 (by rfl) ?_;rw[if_neg (by decide)];refine Run.mayY t0 (by rfl) ?_;rw[if_pos rfl];refine Run.mayN t1 (by rfl) ?_;rw[if_neg (by decide)];refine .callP (x:=.mk 8 a1 nm 0 [] [] [y]) (st1:=⟨i+1+1+(tkP x0).length,true⟩) ?_ ?_
   ·refine .look t1 ?_;simp only;rw[if_pos (by rfl)];exact .adv (.callP hr .retP)
   ·rw[show i+(G [40]::((3,nm,0):Sp)::(tkP x0++[G [41]])).length=i+1+1+(tkP x0).length+1 by simp only[Lc',La',Ln'];omega]
    exact Run.mustT t3 (by rfl) .retP
  | record h =>
   have e:Jt 9 [] 0 [] ls (Fm args)=G [123]::(Ej true ls (Fm args)++[G [125]]):=by simp[Jt]
   rw[e] at hs ⊢;obtain⟨a0,t0⟩:=hs.head;have h1:=hs.tail
   have main:∀ {r:Rs} {st':St},Run us (Cl [125] fun b=>if b=true then .retP (.mk 9 a0 [] 0 [] [] [])else .look fun _ ok=>if ok=true then .callP (.recL a0 [] []) .retP else Bv [125] (.retP (.mk 9 a0 [] 0 [] [] []))) ⟨i+1,true⟩ r st'→Run us (Cl [45] fun b=>if b=true then (.look fun t ok=>if t.k=4 then (if ok=true then .adv (.retP (.mk 3 a0 [] (wrap64 (-t.n)) [] [] []))else .retP (.mk 3 a0 [] (wrap64 (-t.n)) [] [] []))else .fail (.retP (.mk 3 a0 [] 0 [] [] [])))else
  Cl [116,114,117,101] fun b=>if b=true then .retP (.mk 5 a0 [] 1 [] [] [])else
  Cl [102,97,108,115,101] fun b=>if b=true then .retP (.mk 5 a0 [] 0 [] [] [])else
  Cl [40] fun b=>if b=true then (Cl [41] fun b=>if b=true then .retP (.mk 6 a0 [] 0 [] [] [])else .callP .pat fun x=>Bv [41] (.retP x))else
  Cl [123] fun b=>if b=true then (Cl [125] fun b=>if b=true then .retP (.mk 9 a0 [] 0 [] [] [])else .look fun _ ok=>if ok=true then .callP (.recL a0 [] []) .retP else Bv [125] (.retP (.mk 9 a0 [] 0 [] [] [])))else
  .fail (.retP (.mk 0 a0 [] 0 [] [] []))) ⟨i,true⟩ r st':=fun h=>by
    refine Run.mayN t0 (by rfl) ?_;rw[if_neg (by decide)];refine Run.mayN t0 (by rfl) ?_;rw[if_neg (by decide)];refine Run.mayN t0 (by rfl) ?_;rw[if_neg (by decide)];refine Run.mayN t0 (by rfl) ?_;rw[if_neg (by decide)];refine Run.mayY t0 (by rfl) ?_;rw[if_pos rfl];exact h
   by_cases hne:ls=[]
   ·subst hne;obtain rfl:=Ck hna;obtain⟨a1,t1⟩:=h1.head;refine⟨.mk 9 a0 [] 0 [] [] [],sPl,Iv t0 (.inr rfl) (main (Run.mayY t1 (by rfl) ?_))⟩;rw[if_pos rfl];exact .retP
   ·obtain⟨ys,hys,hr⟩:=precL (a:=a0) ls args hna.symm hne (fun j x hx=>⟨IH j x hx,IFst j x hx⟩) (i+1) [] [] h1
    have hq:∃ l r,Ej true ls (Fm args)++[G [125]]=((1,l,0):Sp)::r:=by
     cases ls with
     | nil=>exact absurd rfl hne
     | cons l ls=>cases args with
      | nil=>simp at hna
      | cons x xs=>exact⟨l,_,by rw[Fm];rfl⟩
    obtain⟨l,r,hq⟩:=hq;have h1':=h1;rw[hq] at h1';obtain⟨a1,t1⟩:=h1'.head;refine⟨.mk 9 a0 [] 0 [] ls ys,sP hys,Iv t0 (.inr rfl) (main (Run.mayN t1 (Lx rfl _ _) ?_))⟩;rw[if_neg (by decide)];refine .look t1 ?_;simp only;rw[if_pos trivial];rw[show i+(G [123]::(Ej true ls (Fm args)++[G [125]])).length=i+1+(Ej true ls (Fm args)).length+1 by simp only[Lc',La',Ln'];omega];exact .callP hr .retP
theorem pat_run{x:Ak}(h:Ct x=true){us:List Tok}{i:Nat}(hs:B6 us i (tkP x)):∃ y,D8 x y∧Run us (Cn .pat) ⟨i,true⟩ (.p y) ⟨i+(tkP x).length,true⟩:=by
 obtain⟨y,hy,hr⟩:=patR (szP x+1) x (Nat.lt_succ_self _) h us i hs;obtain⟨q,r,hq,h3⟩:=M0 h;rw[hq] at hs;obtain⟨a0,t0⟩:=hs.head;refine⟨y,hy,.look t0 ?_⟩;simp only;rw[show(true&&(q.1==3))=false by rw[Bool.true_and];exact bN.2 h3,if_neg (by decide)];exact .callP hr .retP
section
variable {us:List Tok} {i a:Nat} {tx:LB} {n:Int}
theorem Fa{t:Tok}(ht:us[i]?=some t)(hb:Ci t true=true)(hx:isB t true [[33]]=false){r:Rs}{st':St}(h:Run us (
   if t.k=1 then .retE (.mk 1 t.at' t.text 0 [] [] [] [])
   else if t.k=2 then .retE (.mk 6 t.at' t.text 0 [] [] [] [])
   else if t.k=4 then .retE (.mk 2 t.at' [] t.n [] [] [] [])
   else if t.k=5 then .retE (.mk 3 t.at' [] 0 t.text [] [] [])
   else if t.text=[116,114,117,101] then .retE (.mk 4 t.at' [] 1 [] [] [] [])
   else if t.text=[102,97,108,115,101] then .retE (.mk 4 t.at' [] 0 [] [] [] [])
   else if t.text=[123] then .callE (.braces t.at') .retE
   else Cl [41] fun b=>if b=true then .retE (.mk 5 t.at' [] 0 [] [] [] [])else .callE .seq fun x=>Bv [41] (.retE x)) ⟨i+1,true⟩ r st'):Run us (body .atom) ⟨i,true⟩ r st':=by
 refine .look ht ?_;simp only;rw[hb,hx,if_pos (by rfl)];exact .adv h
theorem atom_var(ht:us[i]?=some ⟨1,a,tx,n⟩):Run us (body .atom) ⟨i,true⟩ (.e (.mk 1 a tx 0 [] [] [] [])) ⟨i+1,true⟩:=Fa ht (by rfl) (by rfl) (by rw[if_pos rfl];exact .retE)
theorem atom_exn(ht:us[i]?=some ⟨2,a,tx,n⟩):Run us (body .atom) ⟨i,true⟩ (.e (.mk 6 a tx 0 [] [] [] [])) ⟨i+1,true⟩:=Fa ht (by rfl) (by rfl) (by rw[if_neg (by simp),if_pos rfl];exact .retE)
theorem atom_int(ht:us[i]?=some ⟨4,a,tx,n⟩):Run us (body .atom) ⟨i,true⟩ (.e (.mk 2 a [] n [] [] [] [])) ⟨i+1,true⟩:=Fa ht (by rfl) (by rfl) (by rw[if_neg (by simp),if_neg (by simp),if_pos rfl];exact .retE)
theorem atom_str(ht:us[i]?=some ⟨5,a,tx,n⟩):Run us (body .atom) ⟨i,true⟩ (.e (.mk 3 a [] 0 tx [] [] [])) ⟨i+1,true⟩:=Fa ht (by rfl) (by rfl) (by rw[if_neg (by simp),if_neg (by simp),if_neg (by simp),if_pos rfl];exact .retE)
theorem Zi(ht:us[i]?=some ⟨6,a,[116,114,117,101],n⟩):Run us (body .atom) ⟨i,true⟩ (.e (.mk 4 a [] 1 [] [] [] [])) ⟨i+1,true⟩:=Fa ht (by rfl) (by rfl) (by rw[if_neg (by simp),if_neg (by simp),if_neg (by simp),if_neg (by simp),if_pos rfl];exact .retE)
theorem Wk(ht:us[i]?=some ⟨6,a,[102,97,108,115,101],n⟩):Run us (body .atom) ⟨i,true⟩ (.e (.mk 4 a [] 0 [] [] [] [])) ⟨i+1,true⟩:=Fa ht (by rfl) (by rfl) (by rw[if_neg (by simp),if_neg (by simp),if_neg (by simp),if_neg (by simp),if_neg (by simp),if_pos rfl];exact .retE)
theorem Zj(ht:us[i]?=some ⟨7,a,[40],n⟩){a2:Nat}{n2:Int}(h2:us[i+1]?=some ⟨7,a2,[41],n2⟩):Run us (body .atom) ⟨i,true⟩ (.e (.mk 5 a [] 0 [] [] [] [])) ⟨i+2,true⟩:=Fa ht (by rfl) (by rfl) (by
 rw[if_neg (by simp),if_neg (by simp),if_neg (by simp),if_neg (by simp),if_neg (by simp),if_neg (by simp),if_neg (by simp)]
 refine Run.mayY h2 (by rfl) ?_
 rw[if_pos rfl];exact .retE)
theorem O4(ht:us[i]?=some ⟨7,a,[123],n⟩){x:Ab}{st':St}(h:Run us (body (.braces a)) ⟨i+1,true⟩ (.e x) st'):Run us (body .atom) ⟨i,true⟩ (.e x) st':=Fa ht (by rfl) (by rfl) (by
 rw[if_neg (by simp),if_neg (by simp),if_neg (by simp),if_neg (by simp),if_neg (by simp),if_neg (by simp),if_pos rfl]
 exact .callE h .retE)
theorem Z1(ht:us[i]?=some ⟨6,a,[102,117,110],n⟩){x:Ab}{st':St}(h:Run us (body .fn) ⟨i,true⟩ (.e x) st'):Run us (body .item) ⟨i,true⟩ (.e x) st':=by
 refine .look ht (Run.mayN ht (by rfl) ?_);rw[if_neg (by decide)];refine .look ht ?_;simp only;rw[if_pos (by rfl)];exact .callE h .retE
theorem Mq{k:Int}(hk:(k=16∧tx=[109,97,116,99,104])∨(k=17∧tx=[116,114,121]))(ht:us[i]?=some ⟨6,a,tx,n⟩){x:Ab}{st':St}(h:Run us (body (.arms k a)) ⟨i+1,true⟩ (.e x) st'):Run us (body .item) ⟨i,true⟩ (.e x) st':=by
 rcases hk with⟨rfl,rfl⟩| ⟨rfl,rfl⟩
 ·refine .look ht (Run.mayN ht (by rfl) ?_);rw[if_neg (by decide)];refine .look ht ?_;simp only;rw[show isB ⟨6,a,[109,97,116,99,104],n⟩ true [[102,117,110]]=false by rfl,if_neg (by decide)];refine Run.mayY ht (by rfl) ?_;rw[if_pos rfl];exact .callE h .retE
 ·refine .look ht (Run.mayN ht (by rfl) ?_);rw[if_neg (by decide)];refine .look ht ?_;simp only;rw[show isB ⟨6,a,[116,114,121],n⟩ true [[102,117,110]]=false by rfl,if_neg (by decide)];refine Run.mayN ht (by rfl) ?_;rw[if_neg (by decide)];refine Run.mayY ht (by rfl) ?_;rw[if_pos rfl];exact .callE h .retE
end
def Qs(sh:List Sp):Prop:=∃ q r,sh=q::r∧∀ a,Fi4 ⟨q.1,a,q.2.1,q.2.2⟩
def NoEq(sh:List Sp):Prop:=∀ nm n q r,sh=((1,nm,n):Sp)::q::r→q.2.1≠[61]
theorem Qs.app{a:List Sp}(h:Qs a)(b:List Sp):Qs (a++b):=by
 obtain⟨q,r,rfl,hq⟩:=h;exact⟨q,r++b,rfl,hq⟩
theorem Qs.at_{sh r:List Sp}(h:Qs sh){us:List Tok}{i:Nat}(hs:B6 us i (sh++r)):∃ t,us[i]?=some t∧Fi4 t:=by
 obtain⟨q,r',rfl,hq⟩:=h;obtain⟨a,ha⟩:=B6.head (b:=r'++r) hs;exact⟨_,ha,hq a⟩
theorem Qs.pos{sh:List Sp}(h:Qs sh):1≤sh.length:=by
 obtain⟨q,r,rfl,_⟩:=h;simp
theorem Pi:∀ (N:Nat)(x:Ab),szE x<N→Be x=true→Qs (tkE x)∧NoEq (tkE x)
 | 0,_,h,_=>absurd h (Nat.not_lt_zero _)
 | N+1,.mk k a nm n s ls args arms,hlt,hm=>by
  have hsz:szE (.mk k a nm n s ls args arms)=1+(B1 args+Cd arms):=by simp[szE]
  rw[Be,Ba',Ba'] at hm;obtain⟨⟨hf,hm⟩,_⟩:=hm;rw[tkE]
  have op:∀ (z:List Sp),Qs (G [40]::z)∧NoEq (G [40]::z):=fun z=>⟨⟨_,_,rfl,fun a=>fi4_open a 0⟩,fun _ _ _ _ e=>by cases e⟩
  generalize hna:args.length=na at hf;generalize arms.length=ma at hf;generalize Dp args=k0 at hf
  cases Oj hf with
  | var h=>exact⟨⟨_,_,rfl,fun a=>Lw (.inl rfl)⟩,fun _ _ _ _ e=>by cases e⟩
  | int h=>exact⟨⟨_,_,rfl,fun a=>Lw (by simp)⟩,fun _ _ _ _ e=>by cases e⟩
  | str=>exact⟨⟨_,_,rfl,fun a=>Lw (by simp)⟩,fun _ _ _ _ e=>by cases e⟩
  | bool h =>
   rcases h with rfl|rfl
   ·exact⟨⟨_,_,rfl,fun a=>Zs a 0⟩,fun _ _ _ _ e=>by cases e⟩
   ·exact⟨⟨_,_,rfl,fun a=>fi4_true a 0⟩,fun _ _ _ _ e=>by cases e⟩
  | unit=>exact op _
  | exn h=>exact⟨⟨_,_,rfl,fun a=>Lw (by simp)⟩,fun _ _ _ _ e=>by cases e⟩
  | fn h=>exact op _
  | app=>exact op _
  | let_ h=>exact op _
  | rec_ h hk=>exact op _
  | if_=>exact op _
  | record h=>exact⟨⟨_,_,rfl,fun a=>Rg a 0⟩,fun _ _ _ _ e=>by cases e⟩
  | with_ h=>exact⟨⟨_,_,rfl,fun a=>Rg a 0⟩,fun _ _ _ _ e=>by cases e⟩
  | field h =>
   obtain⟨x0,rfl⟩:=Ei hna;obtain⟨h1,h2⟩:=Pi N x0 (by have:=Et (l:=[x0]) (i:=0) rfl;omega) (Hl hm 0 x0 rfl);have e:Bp 14 nm 0 [] [] (Br [x0]) (E9 arms)=tkE x0++[G [46],(1,nm,0)]:=by simp[Bp,Br]
   rw[e];refine⟨h1.app _,fun nm2 n2 q r hq=>?_⟩;obtain⟨q0,r0,hq0,_⟩:=h1;rw[hq0] at hq h2
   cases r0 with
   | nil=>simp at hq;rw[← hq.2.1];decide
   | cons q1 r1 =>
    simp at hq
    exact h2 nm2 n2 q r1 (by rw[hq.1,hq.2.1])
  | tag h=>exact op _
  | match_ h=>exact op _
  | try_ h=>exact op _
  | raise_=>exact op _
  | op h=>exact op _
  | seq=>exact op _
  | and_=>exact op _
  | or_=>exact op _
def PostR(x:Ab):Prop:=∀ (us:List Tok)(i:Nat),Gs us→B6 us i (tkE x)→∃ y,Bl x y∧∀ z st',Run us (body (.postL y)) ⟨i+(tkE x).length,true⟩ (.e z) st'→Run us (body .post) ⟨i,true⟩ (.e z) st'
structure Ok (x:Ab):Prop where
 post:PostR x
 hd:Qs (tkE x)
 ne:NoEq (tkE x)
theorem Ok.run{x:Ab}(h:Ok x){us:List Tok}{i:Nat}(hE:Gs us){q:Sp}{r:List Sp}(hs:B6 us i (tkE x++q::r))(hd:∀ a,isB ⟨q.1,a,q.2.1,q.2.2⟩ true [[46]]=false):∃ y,Bl x y∧Run us (body .post) ⟨i,true⟩ (.e y) ⟨i+(tkE x).length,true⟩:=by
 obtain⟨y,hy,hr⟩:=h.post us i hE hs.left;obtain⟨a,ha⟩:=hs.mid;exact⟨y,hy,hr _ _ (P1 ha (hd a))⟩
theorem Ok.at_{x:Ab}(h:Ok x){us:List Tok}{i:Nat}(hE:Gs us){q:Sp}{r:List Sp}(hs:B6 us i (tkE x++q::r)){l:Nat}(hst:∀ a,Hb ⟨q.1,a,q.2.1,q.2.2⟩ l)(L:Nat)(hL:l≤L)(h7:L≤7):∃ y,Bl x y∧Run us (body (L6 L)) ⟨i,true⟩ (.e y) ⟨i+(tkE x).length,true⟩:=by
 obtain⟨y,hy,hr⟩:=h.run hE hs (fun a=>(hst a).dot);obtain⟨a,ha⟩:=hs.mid;obtain⟨t,ht,hf⟩:=h.hd.at_ hs;exact⟨y,hy,up_post ht hf ha (hst a) L hL h7 hr⟩
theorem Ay{x:Ab}{sh:List Sp}(e:tkE x=G [40]::(sh++[G [41]]))(h:∀ (us:List Tok)(i:Nat),Gs us→B6 us i (sh++[G [41]])→(∃ t,us[i]?=some t∧isB t true [[41]]=false)∧∃ y,Bl x y∧Run us (body .seq) ⟨i,true⟩ (.e y) ⟨i+sh.length,true⟩):PostR x:=by
 intro us i hE hs;rw[e] at hs ⊢;obtain⟨a0,t0⟩:=hs.head;obtain⟨⟨t1,h1,hn⟩,y,hy,hr⟩:=h us (i+1) hE hs.tail;obtain⟨a2,t2⟩:=hs.tail.mid;have ha:=paren t0 h1 hn hr t2;refine⟨y,hy,fun z st' hz=>Iw t0 (by rfl) ha ?_⟩;rw[show i+1+sh.length+1=i+(G [40]::(sh++[G [41]])).length by simp only[Lc',La',Ln'];omega];exact hz
theorem Hn{x:Ab}{q:Sp}(e:tkE x=[q])(hx:∀ a,isB ⟨q.1,a,q.2.1,q.2.2⟩ true [[33]]=false)(h:∀ (us:List Tok)(i a:Nat),us[i]?=some ⟨q.1,a,q.2.1,q.2.2⟩→∃ y,Bl x y∧Run us (body .atom) ⟨i,true⟩ (.e y) ⟨i+1,true⟩):PostR x:=by
 intro us i _ hs;rw[e] at hs ⊢;obtain⟨a0,t0⟩:=hs.head;obtain⟨y,hy,ha⟩:=h us i a0 t0;exact⟨y,hy,fun z st' hz=>Iw t0 (hx a0) ha hz⟩
theorem Fq(a:Nat)(n:Int):Hb ⟨7,a,[41],n⟩ 0:=Xy a n
theorem Y4(a:Nat)(n:Int):Hb ⟨7,a,[125],n⟩ 0:=Ie (by decide) (.inr rfl)
theorem stop44(a:Nat)(n:Int):Hb ⟨7,a,[44],n⟩ 0:=Ie (by decide) (.inr rfl)
theorem stop124(a:Nat)(n:Int):Hb ⟨7,a,[124],n⟩ 0:=Ie (by decide) (.inr rfl)
theorem stopIn(a:Nat)(n:Int):Hb ⟨6,a,[105,110],n⟩ 0:=Ie (by decide) (.inl rfl)
theorem Vw(a:Nat)(n:Int):Hb ⟨6,a,[119,105,116,104],n⟩ 0:=Ie (by decide) (.inl rfl)
theorem stopThen(a:Nat)(n:Int):Hb ⟨6,a,[116,104,101,110],n⟩ 0:=Ie (by decide) (.inl rfl)
theorem stopElse(a:Nat)(n:Int):Hb ⟨6,a,[101,108,115,101],n⟩ 0:=Ie (by decide) (.inl rfl)
theorem stopEnd(a:Nat)(n:Int):Hb ⟨6,a,[101,110,100],n⟩ 0:=Ie (by decide) (.inl rfl)
theorem fn_run{nm:LB}{x:Ab}(hx:Ok x){us:List Tok}{i:Nat}(hE:Gs us){q:Sp}{r:List Sp}(hs:B6 us i (W [102,117,110]::(1,nm,0)::G [45,62]::(tkE x++q::r)))(hst:∀ a,Hb ⟨q.1,a,q.2.1,q.2.2⟩ 0):
  ∃ a y,Bl x y∧Run us (body .fn) ⟨i,true⟩ (.e (.mk 7 a nm 0 [] [] [y] [])) ⟨i+3+(tkE x).length,true⟩:=by
 obtain⟨a0,t0⟩:=hs.head;obtain⟨a1,t1⟩:=hs.tail.head;obtain⟨a2,t2⟩:=hs.tail.tail.head;obtain⟨y,hy,hr⟩:=hx.at_ hE hs.tail.tail.tail hst 0 (Nr' _) (by decide);exact⟨a0,y,hy,.look t0 (Run.mustT t0 (by rfl) (Run.nameT t1 (Run.mustT t2 (by rfl) (.callE hr .retE))))⟩
theorem Vp{us:List Tok}(hE:Gs us){a:Int}:∀ (ls:List LB)(xs:List Ab),ls.length=xs.length→ls≠[]→(∀ (i:Nat)(x:Ab),xs[i]?=some x→Ok x)→∀ (i:Nat)(al:List LB)(ax:List Ab),B6 us i (Ej true ls (Br xs)++[G [125]])→
  ∃ ys,SL Bl xs ys∧Run us (body (.recL a al ax)) ⟨i,true⟩ (.e (.mk 12 a [] 0 [] (al++ls) (ax++ys) [])) ⟨i+(Ej true ls (Br xs)).length+1,true⟩
 | [],_,_,h,_,_,_,_,_=>absurd rfl h
 | _::_,[],h,_,_,_,_,_,_=>by simp at h
 | l::ls,x::xs,hl,_,hp,i,al,ax,hs=>by
  have hx:=hp 0 x rfl;have e0:Ej true (l::ls) (Br (x::xs))=(1,l,0)::G [61]::(tkE x++Ej false ls (Br xs)):=by rw[Br];rfl
  rw[e0] at hs ⊢;obtain⟨a0,t0⟩:=hs.head;obtain⟨a1,t1⟩:=hs.tail.head;have h2:B6 us (i+1+1) (tkE x++Ej false ls (Br xs)++[G [125]]):=hs.tail.tail;rw[Ls'] at h2
  by_cases hne:ls=[]
  ·subst hne;have hxs:xs=[]:=by cases xs with|nil=>rfl|cons _ _=>simp at hl
   subst hxs;have e1:Ej false [] (Br [])=[]:=rfl;rw[e1] at h2 ⊢;rw[List.append_nil];obtain⟨a4,t4⟩:=h2.mid;obtain⟨y,hy,hr⟩:=hx.at_ hE h2 (fun a=>Y4 a 0) 0 (Nr' _) (by decide);refine⟨[y],SL.one hy,?_⟩;rw[Mk];refine Run.nameT t0 (Run.mustT t1 (by rfl) (.callE hr (Run.mayN t4 (by rfl) ?_)));rw[if_neg (by decide)];have:=Run.mustT (ts:=us) (s:=[125]) (k:=.retE (.mk 12 a [] 0 [] (al++[l]) (ax++[y]) [])) t4 (by rfl) .retE;rw[show i+(((1,l,0):Sp)::G [61]::tkE x).length+1=i+1+1+(tkE x).length+1 by simp only[Lc'];omega];exact this
  ·have e1:Ej false ls (Br xs)=G [44]::Ej true ls (Br xs):=by
    cases ls with
    | nil=>exact absurd rfl hne
    | cons l2 ls=>cases xs with
     | nil=>simp at hl
     | cons x2 xs=>rw[Br];rfl
   rw[e1] at h2 ⊢;have h2:B6 us (i+1+1) (tkE x++G [44]::(Ej true ls (Br xs)++[G [125]])):=h2;obtain⟨a4,t4⟩:=h2.mid;obtain⟨y,hy,hr⟩:=hx.at_ hE h2 (fun a=>stop44 a 0) 0 (Nr' _) (by decide);obtain⟨ys,hys,hr2⟩:=Vp hE (a:=a) ls xs (by simpa using hl) hne (fun i x hi=>hp (i+1) x (by simpa using hi)) (i+1+1+(tkE x).length+1) (al++[l]) (ax++[y]) h2.rest;refine⟨y::ys,SL.cons_ hy hys,?_⟩;rw[Mk];refine Run.nameT t0 (Run.mustT t1 (by rfl) (.callE hr (Run.mayY t4 (by rfl) ?_)));rw[if_pos rfl];rw[show i+(((1,l,0):Sp)::G [61]::(tkE x++G [44]::Ej true ls (Br xs))).length+1=i+1+1+(tkE x).length+1+(Ej true ls (Br xs)).length+1 by simp only[Lc',La'];omega];have e2:al++l::ls=al++[l]++ls:=by simp
   have e3:ax++y::ys=ax++[y]++ys:=by simp
   rw[e2,e3];exact .callE hr2 .retE
theorem T0{us:List Tok}(hE:Gs us){i:Nat}{a:Int}{ls:List LB}{xs:List Ab}(hl:ls.length=xs.length)(hp:∀ (i:Nat)(x:Ab),xs[i]?=some x→Ok x)(hs:B6 us i (Ej true ls (Br xs)++[G [125]])):
  ∃ ys,SL Bl xs ys∧Run us (body (.braces a)) ⟨i,true⟩ (.e (.mk 12 a [] 0 [] ls ys [])) ⟨i+(Ej true ls (Br xs)).length+1,true⟩:=by
 by_cases hne:ls=[]
 ·subst hne;have hxs:xs=[]:=by cases xs with|nil=>rfl|cons _ _=>simp at hl
  subst hxs;obtain⟨a0,t0⟩:=B6.head (q:=G [125]) (b:=[]) hs;refine⟨[],SL.nil_ _,?_⟩;rw[H9];refine Run.mayY t0 (by rfl) ?_;rw[if_pos rfl];exact .retE
 ·obtain⟨ys,hys,hr⟩:=Vp hE (a:=a) ls xs hl hne hp i [] [] hs;refine⟨ys,hys,?_⟩
  cases ls with
  | nil=>exact absurd rfl hne
  | cons l ls=>cases xs with
   | nil=>simp at hl
   | cons x xs =>
    have e0:Ej true (l::ls) (Br (x::xs))=(1,l,0)::G [61]::(tkE x++Ej false ls (Br xs)):=by rw[Br];rfl
    rw[e0] at hs hr ⊢;obtain⟨a0,t0⟩:=hs.head;obtain⟨a1,t1⟩:=hs.tail.head;rw[H9];refine Run.mayN t0 (Lx rfl _ _) ?_;rw[if_neg (by decide)];refine .ahead (t:=⟨7,a1,[61],0⟩) (by rw[Ra hE t0 (by simp)];exact t1) ?_;refine .look t0 ?_;simp only;rw[if_pos (by rfl),if_pos trivial];exact .callE hr .retE
theorem Ub{us:List Tok}(hE:Gs us){i:Nat}{a:Int}{nm:LB}{x z:Ab}(hx:Ok x)(hz:Ok z)(hs:B6 us i (tkE x++(W [119,105,116,104]::(1,nm,0)::G [61]::(tkE z++[G [125]])))):
  ∃ y w,Bl x y∧Bl z w∧Run us (body (.braces a)) ⟨i,true⟩ (.e (.mk 13 a nm 0 [] [] [y,w] [])) ⟨i+(tkE x).length+3+(tkE z).length+1,true⟩:=by
 obtain⟨y,hy,hr⟩:=hx.at_ hE hs (fun a=>Vw a 0) 0 (Nr' _) (by decide);obtain⟨t,ht,hf⟩:=hx.hd.at_ hs;obtain⟨a1,t1⟩:=hs.mid;have h2:=hs.rest;obtain⟨a2,t2⟩:=h2.head;obtain⟨a3,t3⟩:=h2.tail.head;have h4:=h2.tail.tail;obtain⟨w,hw,hr2⟩:=hz.at_ hE h4 (fun a=>Y4 a 0) 0 (Nr' _) (by decide);obtain⟨a5,t5⟩:=h4.mid
 have hk0:t.k≠0:=by
  have:=hf.beg;intro e;unfold Ci isB J2 at this;rw[e] at this;simp at this
 have h125:isB t true [[125]]=false:=by
  have:=hf.beg
  cases hb:isB t true [[125]] with
  | false=>rfl
  | true =>
   unfold isB at hb;simp only[Ba',List.contains_iff_mem,List.mem_singleton] at hb;obtain⟨⟨_,hw⟩,ht⟩:=hb;obtain⟨k,at',tx,n⟩:=t;simp only at ht;subst ht;unfold Ci isB at this;have e6:k=6∨k=7:=by unfold J2 at hw;simpa using hw
   rcases e6 with rfl|rfl <;> exact absurd this (by simp[J2])
 -- what stands behind the first token
 obtain⟨q0,r0,hq0,_⟩:=hx.hd;have hs':=hs;rw[hq0] at hs';obtain⟨b0,u0⟩:=B6.head (b:=r0++(W [119,105,116,104]::(1,nm,0)::G [61]::(tkE z++[G [125]]))) hs'
 have hn:∃ u,us[i+1]?=some u∧(t.k==1&&(u.k==7&&u.text==[61]))=false:=by
  have htl:=B6.tail (b:=r0++(W [119,105,116,104]::(1,nm,0)::G [61]::(tkE z++[G [125]]))) hs'
  cases r0 with
  | nil =>
   obtain⟨c,hc⟩:=B6.head (q:=W [119,105,116,104]) (b:=(1,nm,0)::G [61]::(tkE z++[G [125]])) htl
   exact⟨_,hc,by rw[Bool.and_eq_false_iff];exact .inr (by rfl)⟩
  | cons q1 r1 =>
   obtain⟨c,hc⟩:=B6.head (q:=q1) (b:=r1++(W [119,105,116,104]::(1,nm,0)::G [61]::(tkE z++[G [125]]))) htl;refine⟨_,hc,?_⟩;rw[Bool.and_eq_false_iff];by_cases h1:t.k=1
   ·refine .inr ?_;rw[Bool.and_eq_false_iff];refine .inr (bN.2 ?_);rw[u0] at ht;cases ht;obtain⟨k0,n0,m0⟩:=q0;simp only at h1;subst h1;exact hx.ne n0 m0 q1 r1 hq0
   ·exact .inl (bN.2 h1)
 obtain⟨u,hu,hcond⟩:=hn;refine⟨y,w,hy,hw,?_⟩;rw[H9];refine Run.mayN ht h125 ?_;rw[if_neg (by decide)];refine .ahead (t:=u) (by rw[Ra hE ht hk0];exact hu) (.look ht ?_);simp only;rw[hcond,if_neg (by decide)];refine .callE hr (Run.mustT t1 (by rfl) (Run.nameT t2 (Run.mustT t3 (by rfl) (.callE hr2 ?_))));exact Run.mustT t5 (by rfl) .retE
theorem Rb{us:List Tok}(hE:Gs us){k a:Int}{z:Ab}:∀ (ms:List (Ak×Ab)),ms≠[]→(∀ (i:Nat)(p:Ak)(x:Ab),ms[i]?=some (p,x)→Ct p=true∧Ok x)→∀ (i:Nat)(acc:List (Ak×Ab)),B6 us i (Ex true (E9 ms)++[W [101,110,100]])→
  ∃ ns,SL Tp ms ns∧Run us (body (.armsL k a z acc)) ⟨i,true⟩ (.e (.mk k a [] 0 [] [] [z] (acc++ns))) ⟨i+(Ex true (E9 ms)).length+1,true⟩
 | [],h,_,_,_,_=>absurd rfl h
 | (p,x)::ms,_,hp,i,acc,hs=>by
  obtain⟨hpm,hx⟩:=hp 0 p x rfl;have e0:Ex true (E9 ((p,x)::ms))=tkP p++(G [45,62]::(tkE x++Ex false (E9 ms))):=by rw[E9,tkA];rfl
  rw[e0] at hs ⊢;rw[Ls'] at hs;obtain⟨p',hp',hr0⟩:=pat_run hpm hs.left;have hs:B6 us i (tkP p++G [45,62]::((tkE x++Ex false (E9 ms))++[W [101,110,100]])):=hs;obtain⟨a1,t1⟩:=hs.mid;have h2:=hs.rest;rw[Ls'] at h2
  by_cases hne:ms=[]
  ·subst hne;have e1:Ex false (E9 [])=[]:=rfl;rw[e1] at h2 ⊢;rw[List.append_nil];obtain⟨a4,t4⟩:=h2.mid;obtain⟨y,hy,hr⟩:=hx.at_ hE h2 (fun a=>stopEnd a 0) 0 (Nr' _) (by decide);refine⟨[(p',y)],SL.one ⟨hp',hy⟩,.callP hr0 (Run.mustT t1 (by rfl) (.callE hr (Run.mayN t4 (by rfl) ?_)))⟩;rw[if_neg (by decide)];rw[show i+(tkP p++G [45,62]::tkE x).length+1=i+(tkP p).length+1+(tkE x).length+1 by simp only[Lc',La'];omega];exact Run.mustT t4 (by rfl) .retE
  ·have e1:Ex false (E9 ms)=G [124]::Ex true (E9 ms):=by
    cases ms with
    | nil=>exact absurd rfl hne
    | cons m ms=>obtain⟨p2,x2⟩:=m;rw[E9,tkA];rfl
   rw[e1] at h2 ⊢;have h2:B6 us (i+(tkP p).length+1) (tkE x++G [124]::(Ex true (E9 ms)++[W [101,110,100]])):=h2;obtain⟨a4,t4⟩:=h2.mid;obtain⟨y,hy,hr⟩:=hx.at_ hE h2 (fun a=>stop124 a 0) 0 (Nr' _) (by decide);obtain⟨ns,hns,hr2⟩:=Rb hE (k:=k) (a:=a) (z:=z) ms hne (fun i p x hi=>hp (i+1) p x (by simpa using hi)) (i+(tkP p).length+1+(tkE x).length+1) (acc++[(p',y)]) h2.rest;refine⟨(p',y)::ns,SL.cons_ ⟨hp',hy⟩ hns,.callP hr0 (Run.mustT t1 (by rfl) (.callE hr (Run.mayY t4 (by rfl) ?_)))⟩;rw[if_pos rfl];rw[show i+(tkP p++G [45,62]::(tkE x++G [124]::Ex true (E9 ms))).length+1=i+(tkP p).length+1+(tkE x).length+1+(Ex true (E9 ms)).length+1 by simp only[Lc',La'];omega];have e2:acc++(p',y)::ns=acc++[(p',y)]++ns:=by simp
   rw[e2];exact .callE hr2 .retE
theorem O3{us:List Tok}(hE:Gs us){i:Nat}{k a:Int}{x:Ab}(hx:Ok x){ms:List (Ak×Ab)}(hne:ms≠[])(hp:∀ (i:Nat)(p:Ak)(x:Ab),ms[i]?=some (p,x)→Ct p=true∧Ok x)(hs:B6 us i (tkE x++(W [119,105,116,104]::(Ex true (E9 ms)++[W [101,110,100]])))):
  ∃ y ns,Bl x y∧SL Tp ms ns∧Run us (body (.arms k a)) ⟨i,true⟩ (.e (.mk k a [] 0 [] [] [y] ns)) ⟨i+(tkE x).length+1+(Ex true (E9 ms)).length+1,true⟩:=by
 obtain⟨y,hy,hr⟩:=hx.at_ hE hs (fun a=>Vw a 0) 0 (Nr' _) (by decide);obtain⟨a1,t1⟩:=hs.mid;obtain⟨ns,hns,hr2⟩:=Rb hE (k:=k) (a:=a) (z:=y) ms hne hp _ [] hs.rest
 have h0:∃ t,us[i+(tkE x).length+1]?=some t:=by
  cases hr2 with
  | callP h hk =>
   cases h with
   | look h _=>exact⟨_,h⟩
 obtain⟨t,ht⟩:=h0;refine⟨y,ns,hy,hns,.callE hr (Run.mustT t1 (by rfl) (.look ht ?_))⟩;rw[if_pos rfl];exact .callE hr2 .retE
theorem Yv{us:List Tok}(hE:Gs us){n a:Int}:∀ (xs:List Ab),(∀ (i:Nat)(x:Ab),xs[i]?=some x→Ok x)→∀ (i:Nat)(acc:List Ab),B6 us i (Ek (Br xs)++[G [41]])→
  ∃ ys,SL Bl xs ys∧Run us (body (.opL n a xs.length acc)) ⟨i,true⟩ (.e (opE n a (acc++ys))) ⟨i+(Ek (Br xs)).length,true⟩
 | [],_,i,acc,_=>⟨[],SL.nil_ _,by rw[List.append_nil];exact .retE⟩
 | x::xs,hp,i,acc,hs=>by
  have hx:=hp 0 x rfl;have e0:Ek (Br (x::xs))=tkE x++Ek (Br xs):=by rw[Br];rfl
  rw[e0] at hs ⊢;rw[Ls'] at hs
  obtain⟨y,hy,hr⟩:∃ y,Bl x y∧Run us (body .post) ⟨i,true⟩ (.e y) ⟨i+(tkE x).length,true⟩:=by
   cases xs with
   | nil=>exact hx.run (q:=G [41]) (r:=[]) hE hs (fun a=>by rfl)
   | cons x2 xs =>
    have h2:=hp 1 x2 rfl;obtain⟨q,r,hq,hf⟩:=h2.hd;have e1:Ek (Br (x2::xs))++[G [41]]=q::(r++Ek (Br xs)++[G [41]]):=by rw[Br,Ek,hq];simp
    rw[e1] at hs;exact hx.run hE hs (fun a=>(hf a).dot)
  obtain⟨ys,hys,hr2⟩:=Yv hE (n:=n) (a:=a) xs (fun i x hi=>hp (i+1) x (by simpa using hi)) (i+(tkE x).length) (acc++[y]) hs.right;refine⟨y::ys,SL.cons_ hy hys,?_⟩;rw[La',← Nat.add_assoc];have e2:acc++y::ys=acc++[y]++ys:=by simp
  rw[e2];exact .callE hr (.callE hr2 .retE)
theorem O6{t:Tok}(hb:Ci t true=true){s:LB}(hs:([[116,114,117,101],[102,97,108,115,101],[40],[123],[33]]:List LB).contains s=false):isB t true [s]=false:=by
 rw[Bool.eq_false_iff];intro h;unfold isB at h;simp only[Ba',List.contains_iff_mem,List.mem_singleton] at h;obtain⟨⟨_,hw⟩,ht⟩:=h;have hk:t.k=6∨t.k=7:=by unfold J2 at hw;simpa using hw
 unfold Ci isB at hb;have e:(true&&(t.k==1||t.k==2||t.k==4||t.k==5))=false:=by rcases hk with h|h <;> rw[h] <;> rfl
 rw[e,hw,ht,hs] at hb;cases hb
theorem Fy{L:Nat}{s:LB}(hg:Sg s L){x0 x1:Ab}(h0:Ok x0)(h1:Ok x1){us:List Tok}{i:Nat}(hE:Gs us)(hs:B6 us i ((tkE x0++(G s::tkE x1))++[G [41]])):
  (∃ t,us[i]?=some t∧isB t true [[41]]=false)∧∃ a y0 y1,Bl x0 y0∧Bl x1 y1∧Run us (body .seq) ⟨i,true⟩ (.e (mkB L s a y0 y1)) ⟨i+(tkE x0++(G s::tkE x1)).length,true⟩:=by
 have hs:B6 us i (tkE x0++G s::(tkE x1++[G [41]])):=by rw[Ls'] at hs;exact hs
 obtain⟨t,ht,hf⟩:=h0.hd.at_ hs;refine⟨⟨t,ht,O6 hf.beg (by decide)⟩,?_⟩;have hL:=hg.le;obtain⟨a1,t1⟩:=hs.mid;obtain⟨a2,t2⟩:=B6.mid hs.rest;obtain⟨y0,hy0,hr0⟩:=h0.at_ hE hs (l:=L+1) (fun a=>hg.stop a 0) (L+1) (Nr' _) (by omega);obtain⟨y1,hy1,hr1⟩:=h1.at_ hE hs.rest (l:=0) (fun a=>Fq a 0) (rOf L) (Nat.zero_le _) (rOf_le hL).1;have hj:=join2 ht hf.three.two.one t1 t2 (L:=L) (by omega) (hg.yes _ _) (fun h5=>(Fq a2 0).lv L (Nat.zero_le _) (by omega)) hr0 hr1;refine⟨a1,y0,y1,hy0,hy1,?_⟩;have hu:=up ht hf.three.two.one t2 (Fq a2 0) 0 L (Nr' _) (Nat.zero_le _) (by omega) hj;rw[show i+(tkE x0++(G s::tkE x1)).length=i+(tkE x0).length+1+(tkE x1).length by simp only[La',Lc'];omega];exact hu
theorem Gd(L:Nat)(s:LB)(a a':Int){x0 x1 y0 y1:Ab}(h0:Bl x0 y0)(h1:Bl x1 y1){x:Ab}(e:x=mkB L s a x0 x1):Bl x (mkB L s a' y0 y1):=by rw[e];exact mkB_same L s a a' h0 h1
theorem Nc{us:List Tok}{i j:Nat}{y:Ab}{t u:Tok}(ht:us[i]?=some t)(hf:Fi1 t)(hu:us[j]?=some u)(hs:Hb u 0)(hr:Run us (body .unary) ⟨i,true⟩ (.e y) ⟨j,true⟩):Run us (body .seq) ⟨i,true⟩ (.e y) ⟨j,true⟩:=
 up ht hf hu hs 0 7 (Nr' _) (by decide) (Nr' _) hr
theorem Gp{n:Int}{tx:LB}(hc:Bb tx=(n,Dc n))(h0:0<n)(hfi:([[108,101,116],[102,117,110],[109,97,116,99,104],[116,114,121],[105,102],[114,97,105,115,101],[45],[110,111,116]]:List LB).contains tx=false∧([tx]:List LB).contains [41]=false){us:List Tok}{i:Nat}{a:Int}(hE:Gs us){args:List Ab}(IH:∀ (i:Nat)(x:Ab),args[i]?=some x→Ok x)(hna:args.length=Dc n)(hs:B6 us i ((W tx::Ek (Br args))++[G [41]])):
  (∃ t,us[i]?=some t∧isB t true [[41]]=false)∧∃ y,Bl (.mk 19 a [] n [] [] args []) y∧Run us (body .seq) ⟨i,true⟩ (.e y) ⟨i+(W tx::Ek (Br args)).length,true⟩:=by
 have hs:B6 us i (W tx::(Ek (Br args)++[G [41]])):=hs;obtain⟨a0,t0⟩:=hs.head;obtain⟨a2,t2⟩:=B6.mid hs.tail;obtain⟨ys,hys,hr⟩:=Yv hE (n:=n) (a:=a0) args IH (i+1) [] hs.tail;have hk:Fi2 ⟨6,a0,tx,0⟩:=Um (.inl rfl) hfi.1
 have hn:isB ⟨6,a0,tx,0⟩ true [[41]]=false:=by
  rw[Bool.eq_false_iff];intro hb;unfold isB at hb;simp only[Ba',List.contains_iff_mem,List.mem_singleton] at hb;have h2:=hfi.2;have e:tx=[41]:=hb.2;rw[e] at h2;exact absurd h2 (by decide)
 refine⟨⟨_,t0,hn⟩,opE n a0 ys,sE0 hys,?_⟩;rw[show i+(W tx::Ek (Br args)).length=i+1+(Ek (Br args)).length by simp only[Lc'];omega];refine Nc t0 hk.one t2 (Fq a2 0) (Wc t0 hk (.look t0 ?_));have e3:(true&&(W tx).1==3)=false:=rfl
 have e6:(true&&(W tx).1==6&&decide (0<(Bb (W tx).2.1).1))=true:=by
  show(true&&true&&decide (0<(Bb tx).1))=true;rw[hc,decide_eq_true h0];rfl
 simp only;rw[e3,if_neg (by decide),e6,if_pos rfl];have ec:Bb (W tx).2.1=(n,args.length):=by rw[hna];exact hc
 rw[ec];exact .adv (.callE hr .retE)
theorem Yr(i:Nat)(a b:List Sp):i+(a++b).length=i+a.length+b.length:=by rw[La',Nat.add_assoc]
theorem okE:∀ (N:Nat)(x:Ab),szE x<N→Be x=true→Ok x
 | 0,_,h,_=>absurd h (Nat.not_lt_zero _)
 | N+1,.mk k a nm n s ls args arms,hlt,hm=>by
  obtain⟨hd,hne⟩:=Pi _ _ hlt hm;refine⟨?_,hd,hne⟩;clear hd hne;have hsz:szE (.mk k a nm n s ls args arms)=1+(B1 args+Cd arms):=by simp[szE]
  rw[Be,Ba',Ba'] at hm;obtain⟨⟨hf,hm⟩,hma⟩:=hm;have IH:∀ (i:Nat) (x:Ab),args[i]?=some x→Ok x:=fun i x hx=>okE N x (by have:=Et hx;omega) (Hl hm i x hx)
  have IA:∀ (i:Nat) (p:Ak) (x:Ab),arms[i]?=some (p,x)→Ct p=true∧Ok x:=fun i p x hx=>⟨(It hma i p x hx).1,okE N x (by have:=Fd hx;have:=Y7 p;omega) (It hma i p x hx).2⟩
  generalize hna:args.length=na at hf;generalize hnm:arms.length=ma at hf;generalize hk0:Dp args=k0 at hf
  cases Oj hf with
  | var h =>
   obtain rfl:=Ck hna;obtain rfl:=Ck hnm
   exact Hn (q:=(1,nm,0)) (by simp[tkE,Bp]) (fun a=>by rfl) (fun us i a t=>⟨_,sEl,atom_var t⟩)
  | int h =>
   obtain rfl:=Ck hna;obtain rfl:=Ck hnm
   exact Hn (q:=(4,[],n)) (by simp[tkE,Bp]) (fun a=>by rfl) (fun us i a t=>⟨_,sEl,atom_int t⟩)
  | str =>
   obtain rfl:=Ck hna;obtain rfl:=Ck hnm
   exact Hn (q:=(5,s,0)) (by simp[tkE,Bp]) (fun a=>by rfl) (fun us i a t=>⟨_,sEl,atom_str t⟩)
  | bool h =>
   obtain rfl:=Ck hna;obtain rfl:=Ck hnm;rcases h with rfl|rfl
   ·exact Hn (q:=W [102,97,108,115,101]) (by simp[tkE,Bp,Fs]) (fun a=>by rfl) (fun us i a t=>⟨_,sEl,Wk t⟩)
   ·exact Hn (q:=W [116,114,117,101]) (by simp[tkE,Bp,Fs]) (fun a=>by rfl) (fun us i a t=>⟨_,sEl,Zi t⟩)
  | exn h =>
   obtain rfl:=Ck hna;obtain rfl:=Ck hnm
   exact Hn (q:=(2,nm,0)) (by simp[tkE,Bp]) (fun a=>by rfl) (fun us i a t=>⟨_,sEl,atom_exn t⟩)
  | unit =>
   obtain rfl:=Ck hna;obtain rfl:=Ck hnm;intro us i hE hs;have e:tkE (.mk 5 a [] 0 [] [] [] [])=[G [40],G [41]]:=by simp[tkE,Bp]
   rw[e] at hs ⊢;obtain⟨a0,t0⟩:=hs.head;obtain⟨a1,t1⟩:=hs.tail.head
   exact⟨_,sEl,fun z st' hz=>Iw t0 (by rfl) (Zj t0 t1) hz⟩
  | fn h =>
   obtain⟨x0,rfl⟩:=Ei hna;obtain rfl:=Ck hnm;have h0:=IH 0 x0 rfl;refine Ay (sh:=W [102,117,110]::(1,nm,0)::G [45,62]::tkE x0) (by simp[tkE,Br,Bp,Bh]) (fun us i hE hs=>?_);obtain⟨a0,t0⟩:=B6.head hs;have hs:B6 us i (W [102,117,110]::(1,nm,0)::G [45,62]::(tkE x0++[G [41]])):=hs;obtain⟨a',y,hy,hr⟩:=fn_run h0 hE hs (fun a=>Fq a 0);obtain⟨a2,t2⟩:=B6.mid hs.tail.tail.tail;refine⟨⟨_,t0,by rfl⟩,.mk 7 a' nm 0 [] [] [y] [],sE0 (SL.one hy),?_⟩;rw[show i+(W [102,117,110]::((1,nm,0):Sp)::G [45,62]::tkE x0).length=i+3+(tkE x0).length by simp only[Lc'];omega]
   exact Gy (by rw[show i+3+(tkE x0).length=i+1+1+1+(tkE x0).length by omega];exact t2) (by rfl) (Z1 t0 hr)
  | app =>
   obtain⟨x0,x1,rfl⟩:=D5 hna;obtain rfl:=Ck hnm;have h0:=IH 0 x0 rfl;have h1:=IH 1 x1 rfl;refine Ay (sh:=tkE x0++tkE x1) (by simp[tkE,Br,Bp,Bh]) (fun us i hE hs=>?_);have hs:B6 us i (tkE x0++(tkE x1++[G [41]])):=by rw[Ls'] at hs;exact hs
   obtain⟨t,ht,hf⟩:=h0.hd.at_ hs;have h2:=hs.right;obtain⟨u,hu,hfu⟩:=h1.hd.at_ h2;obtain⟨a3,t3⟩:=B6.mid h2;obtain⟨y0,hy0,hr0⟩:=h0.post us i hE hs.left;obtain⟨y1,hy1,hr1⟩:=h1.run hE h2 (fun a=>by rfl);have hp:=hr0 _ _ (P1 hu hfu.dot);have ha:=Wi ht hf.three hp (appL_one hu hfu.beg hr1 t3 (by rfl));refine⟨⟨t,ht,O6 hf.beg (by decide)⟩,D4 8 y0.at_ [y0,y1],sE0 (SL.two hy0 hy1),?_⟩;rw[Yr]
   exact Nc ht hf.three.two.one t3 (Fq a3 0) (Wc ht hf.three.two ha)
  | let_ h =>
   obtain⟨x0,x1,rfl⟩:=D5 hna;obtain rfl:=Ck hnm;have h0:=IH 0 x0 rfl;have h1:=IH 1 x1 rfl;refine Ay (sh:=W [108,101,116]::(1,nm,0)::G [61]::(tkE x0++(W [105,110]::tkE x1))) (by simp[tkE,Br,Bp,Bh]) (fun us i hE hs=>?_);have hs:B6 us i (W [108,101,116]::(1,nm,0)::G [61]::(tkE x0++(W [105,110]::(tkE x1++[G [41]])))):=by simpa using hs
   obtain⟨a0,t0⟩:=hs.head;obtain⟨a1,t1⟩:=hs.tail.head;obtain⟨a2,t2⟩:=hs.tail.tail.head;have h3:=hs.tail.tail.tail;obtain⟨a4,t4⟩:=h3.mid;obtain⟨y0,hy0,hr0⟩:=h0.at_ hE h3 (fun a=>stopIn a 0) 0 (Nr' _) (by decide);obtain⟨y1,hy1,hr1⟩:=h1.at_ hE h3.rest (fun a=>Fq a 0) 0 (Nr' _) (by decide);obtain⟨a5,t5⟩:=B6.mid h3.rest;refine⟨⟨_,t0,by rfl⟩,.mk 9 a0 nm 0 [] [] [y0,y1] [],sE0 (SL.two hy0 hy1),?_⟩;rw[show i+(W [108,101,116]::((1,nm,0):Sp)::G [61]::(tkE x0++(W [105,110]::tkE x1))).length=i+1+1+1+(tkE x0).length+1+(tkE x1).length by simp only[Lc',La'];omega];refine Gy t5 (by rfl) (.look t0 (Run.mayY t0 (by rfl) ?_));rw[if_pos rfl];refine Run.mayN t1 (Lx rfl _ _) ?_
   exact Run.nameT t1 (Run.mustT t2 (by rfl) (.callE hr0 (Run.mustT t4 (by rfl) (.callE hr1 .retE))))
  | rec_ h hk =>
   obtain⟨x0,x1,rfl⟩:=D5 hna;obtain rfl:=Ck hnm;have hx7:x0.k_=7:=hk0.trans hk;have hm0:=Hl hm 0 x0 rfl;have hz0:=Et (l:=[x0,x1]) (i:=0) rfl;have h1:=IH 1 x1 rfl;clear IH hk0;obtain⟨k',a',nm',n',s',ls',args',arms'⟩:=x0;have hx7:k'=7:=hx7;subst hx7;rw[Be,Ba',Ba'] at hm0;obtain⟨⟨hf',hm'⟩,_⟩:=hm0;have hsz':szE (.mk 7 a' nm' n' s' ls' args' arms')=1+(B1 args'+Cd arms'):=by simp[szE]
   have IH':∀ (i:Nat) (x:Ab),args'[i]?=some x→Ok x:=fun i x hx=>okE N x (by have:=Et hx;omega) (Hl hm' i x hx)
   generalize hna':args'.length=na' at hf';generalize hnm':arms'.length=ma' at hf';generalize Dp args'=k0' at hf'
   cases Oj hf' with
   | fn h' =>
   obtain⟨x00,rfl⟩:=Ei hna';obtain rfl:=Ck hnm';have h0:=IH' 0 x00 rfl
   have ek:J7 (tkE (.mk 7 a' nm' 0 [] [] [x00] []))=W [102,117,110]::(1,nm',0)::G [45,62]::tkE x00:=by
    have:tkE (.mk 7 a' nm' 0 [] [] [x00] [])=G [40]::((W [102,117,110]::(1,nm',0)::G [45,62]::tkE x00)++[G [41]]):=by simp[tkE,Br,Bp,Bh]
    rw[this,Pj]
   refine Ay (sh:=W [108,101,116]::W [114,101,99]::(1,nm,0)::G [61]::((W [102,117,110]::(1,nm',0)::G [45,62]::tkE x00)++(W [105,110]::tkE x1))) (by rw[← ek];simp[tkE,Br,Bp,Bh]) (fun us i hE hs=>?_);have hs:B6 us i (W [108,101,116]::W [114,101,99]::(1,nm,0)::G [61]::(W [102,117,110]::(1,nm',0)::G [45,62]::(tkE x00++(W [105,110]::(tkE x1++[G [41]]))))):=by simpa using hs
   obtain⟨a0,t0⟩:=hs.head;obtain⟨a1,t1⟩:=hs.tail.head;obtain⟨a2,t2⟩:=hs.tail.tail.head;obtain⟨a3,t3⟩:=hs.tail.tail.tail.head;have h4:=hs.tail.tail.tail.tail;obtain⟨af,y0,hy0,hr0⟩:=fn_run h0 hE h4 (fun a=>stopIn a 0);have h5:=h4.tail.tail.tail;obtain⟨a6,t6⟩:=h5.mid;obtain⟨y1,hy1,hr1⟩:=h1.at_ hE h5.rest (fun a=>Fq a 0) 0 (Nr' _) (by decide);obtain⟨a7,t7⟩:=B6.mid h5.rest;rw[show i+1+1+1+1+3+(tkE x00).length=i+1+1+1+1+1+1+1+(tkE x00).length by omega] at hr0;refine⟨⟨_,t0,by rfl⟩,.mk 10 a0 nm 0 [] [] [.mk 7 af nm' 0 [] [] [y0] [],y1] [],sE0 (SL.two (sE0 (SL.one hy0)) hy1),?_⟩;rw[show i+(W [108,101,116]::W [114,101,99]::((1,nm,0):Sp)::G [61]::((W [102,117,110]::(1,nm',0)::G [45,62]::tkE x00)++(W [105,110]::tkE x1))).length=i+1+1+1+1+1+1+1+(tkE x00).length+1+(tkE x1).length by simp only[Lc',La'];omega];refine Gy t7 (by rfl) (.look t0 (Run.mayY t0 (by rfl) ?_));rw[if_pos rfl];refine Run.mayY t1 (by rfl) ?_
   exact Run.nameT t2 (Run.mustT t3 (by rfl) (.callE hr0 (Run.mustT t6 (by rfl) (.callE hr1 .retE))))
  | if_ =>
   obtain⟨x0,x1,x2,rfl⟩:=V1 hna;obtain rfl:=Ck hnm;have h0:=IH 0 x0 rfl;have h1:=IH 1 x1 rfl;have h2:=IH 2 x2 rfl;refine Ay (sh:=W [105,102]::(tkE x0++(W [116,104,101,110]::(tkE x1++(W [101,108,115,101]::tkE x2))))) (by simp[tkE,Br,Bp,Bh]) (fun us i hE hs=>?_);have hs:B6 us i (W [105,102]::(tkE x0++(W [116,104,101,110]::(tkE x1++(W [101,108,115,101]::(tkE x2++[G [41]])))))):=by simpa using hs
   obtain⟨a0,t0⟩:=hs.head;have h3:=hs.tail;obtain⟨a4,t4⟩:=h3.mid;have h5:=h3.rest;obtain⟨a6,t6⟩:=h5.mid;have h7:=h5.rest;obtain⟨a8,t8⟩:=B6.mid h7;obtain⟨y0,hy0,hr0⟩:=h0.at_ hE h3 (fun a=>stopThen a 0) 0 (Nr' _) (by decide);obtain⟨y1,hy1,hr1⟩:=h1.at_ hE h5 (fun a=>stopElse a 0) 1 (by decide) (by decide);obtain⟨y2,hy2,hr2⟩:=h2.at_ hE h7 (fun a=>Fq a 0) 1 (by decide) (by decide);refine⟨⟨_,t0,by rfl⟩,D4 11 a0 [y0,y1,y2],sE0 (SL.three hy0 hy1 hy2),?_⟩;rw[show i+(W [105,102]::(tkE x0++(W [116,104,101,110]::(tkE x1++(W [101,108,115,101]::tkE x2))))).length=i+1+(tkE x0).length+1+(tkE x1).length+1+(tkE x2).length by simp only[Lc',La'];omega];refine Gy t8 (by rfl) (.look t0 (Run.mayN t0 (by rfl) ?_));rw[if_neg (by decide)];refine .look t0 ?_;simp only;rw[show isB ⟨(W [105,102]).1,a0,(W [105,102]).2.1,(W [105,102]).2.2⟩ true [[102,117,110]]=false by rfl,if_neg (by decide)];refine Run.mayN t0 (by rfl) ?_;rw[if_neg (by decide)];refine Run.mayN t0 (by rfl) ?_;rw[if_neg (by decide)];refine Run.mayY t0 (by rfl) ?_;rw[if_pos rfl]
   exact .callE hr0 (Run.mustT t4 (by rfl) (.callE hr1 (Run.mustT t6 (by rfl) (.callE hr2 .retE))))
  | record h =>
   obtain rfl:=Ck hnm;intro us i hE hs;have e:tkE (.mk 12 a [] 0 [] ls args [])=G [123]::(Ej true ls (Br args)++[G [125]]):=by simp[tkE,Bp]
   rw[e] at hs ⊢;obtain⟨a0,t0⟩:=hs.head;obtain⟨ys,hys,hr⟩:=T0 (a:=a0) hE hna.symm IH hs.tail;refine⟨.mk 12 a0 [] 0 [] ls ys [],sE0 hys,fun z st' hz=>Iw t0 (by rfl) (O4 t0 hr) ?_⟩;rw[show i+1+(Ej true ls (Br args)).length+1=i+(G [123]::(Ej true ls (Br args)++[G [125]])).length by simp only[Lc',La',Ln'];omega]
   exact hz
  | with_ h =>
   obtain⟨x0,x1,rfl⟩:=D5 hna;obtain rfl:=Ck hnm;intro us i hE hs;have e:tkE (.mk 13 a nm 0 [] [] [x0,x1] [])=G [123]::(tkE x0++(W [119,105,116,104]::(1,nm,0)::G [61]::(tkE x1++[G [125]]))):=by simp[tkE,Br,Bp]
   rw[e] at hs ⊢;obtain⟨a0,t0⟩:=hs.head;obtain⟨y0,y1,hy0,hy1,hr⟩:=Ub (a:=a0) hE (IH 0 x0 rfl) (IH 1 x1 rfl) hs.tail;refine⟨.mk 13 a0 nm 0 [] [] [y0,y1] [],sE0 (SL.two hy0 hy1),fun z st' hz=>Iw t0 (by rfl) (O4 t0 hr) ?_⟩;rw[show i+1+(tkE x0).length+3+(tkE x1).length+1=i+(G [123]::(tkE x0++(W [119,105,116,104]::((1,nm,0):Sp)::G [61]::(tkE x1++[G [125]])))).length by simp only[Lc',La',Ln'];omega]
   exact hz
  | field h =>
   obtain⟨x0,rfl⟩:=Ei hna;obtain rfl:=Ck hnm;intro us i hE hs;have e:tkE (.mk 14 a nm 0 [] [] [x0] [])=tkE x0++[G [46],(1,nm,0)]:=by simp[tkE,Br,Bp]
   rw[e] at hs ⊢;obtain⟨y,hy,hr⟩:=(IH 0 x0 rfl).post us i hE hs.left;obtain⟨a1,t1⟩:=hs.right.head;obtain⟨a2,t2⟩:=hs.right.tail.head;refine⟨.mk 14 a1 nm 0 [] [] [y] [],sE0 (SL.one hy),fun z st' hz=>hr _ _ (Vg t1 t2 ?_)⟩;rw[Yr] at hz
   exact hz
  | tag h =>
   obtain⟨x0,rfl⟩:=Ei hna;obtain rfl:=Ck hnm;have h0:=IH 0 x0 rfl;refine Ay (sh:=(3,nm,0)::tkE x0) (by simp[tkE,Br,Bp,Bh]) (fun us i hE hs=>?_);have hs:B6 us i ((3,nm,0)::(tkE x0++[G [41]])):=hs;obtain⟨a0,t0⟩:=hs.head;obtain⟨a2,t2⟩:=B6.mid hs.tail;obtain⟨y0,hy0,hr0⟩:=h0.run hE hs.tail (fun a=>by rfl);have hk:Fi2 ⟨3,a0,nm,0⟩:=Ul (by simp);refine⟨⟨_,t0,Fb (by simp) _ _⟩,.mk 15 a0 nm 0 [] [] [y0] [],sE0 (SL.one hy0),?_⟩;rw[show i+(((3,nm,0):Sp)::tkE x0).length=i+1+(tkE x0).length by simp only[Lc'];omega];refine Nc t0 hk.one t2 (Fq a2 0) (Wc t0 hk (.look t0 ?_));simp only;rw[if_pos (by rfl)]
   exact .adv (.callE hr0 .retE)
  | match_ h =>
   obtain⟨x0,rfl⟩:=Ei hna;have hne:arms≠[]:=fun e=>by rw[e] at hnm;simp at hnm;omega
   refine Ay (sh:=W [109,97,116,99,104]::(tkE x0++(W [119,105,116,104]::(Ex true (E9 arms)++[W [101,110,100]])))) (by simp[tkE,Br,Bp,Bh]) (fun us i hE hs=>?_);have hs':B6 us i ((W [109,97,116,99,104]::(tkE x0++(W [119,105,116,104]::(Ex true (E9 arms)++[W [101,110,100]]))))++G [41]::[]):=hs;obtain⟨a0,t0⟩:=B6.head hs;obtain⟨a2,t2⟩:=hs'.mid;obtain⟨y,ns,hy,hns,hr⟩:=O3 (k:=16) (a:=a0) hE (IH 0 x0 rfl) hne IA hs'.left.tail;refine⟨⟨_,t0,by rfl⟩,.mk 16 a0 [] 0 [] [] [y] ns,sE (SL.one hy) hns,Gy t2 (by rfl) (Mq (.inl ⟨rfl,rfl⟩) t0 ?_)⟩;rw[show i+(W [109,97,116,99,104]::(tkE x0++(W [119,105,116,104]::(Ex true (E9 arms)++[W [101,110,100]])))).length=i+1+(tkE x0).length+1+(Ex true (E9 arms)).length+1 by simp only[Lc',La',Ln'];omega]
   exact hr
  | try_ h =>
   obtain⟨x0,rfl⟩:=Ei hna;have hne:arms≠[]:=fun e=>by rw[e] at hnm;simp at hnm;omega
   refine Ay (sh:=W [116,114,121]::(tkE x0++(W [119,105,116,104]::(Ex true (E9 arms)++[W [101,110,100]])))) (by simp[tkE,Br,Bp,Bh]) (fun us i hE hs=>?_);have hs':B6 us i ((W [116,114,121]::(tkE x0++(W [119,105,116,104]::(Ex true (E9 arms)++[W [101,110,100]]))))++G [41]::[]):=hs;obtain⟨a0,t0⟩:=B6.head hs;obtain⟨a2,t2⟩:=hs'.mid;obtain⟨y,ns,hy,hns,hr⟩:=O3 (k:=17) (a:=a0) hE (IH 0 x0 rfl) hne IA hs'.left.tail;refine⟨⟨_,t0,by rfl⟩,.mk 17 a0 [] 0 [] [] [y] ns,sE (SL.one hy) hns,Gy t2 (by rfl) (Mq (.inr ⟨rfl,rfl⟩) t0 ?_)⟩;rw[show i+(W [116,114,121]::(tkE x0++(W [119,105,116,104]::(Ex true (E9 arms)++[W [101,110,100]])))).length=i+1+(tkE x0).length+1+(Ex true (E9 arms)).length+1 by simp only[Lc',La',Ln'];omega]
   exact hr
  | raise_ =>
   obtain⟨x0,rfl⟩:=Ei hna;obtain rfl:=Ck hnm;have h0:=IH 0 x0 rfl;refine Ay (sh:=W [114,97,105,115,101]::tkE x0) (by simp[tkE,Br,Bp,Bh]) (fun us i hE hs=>?_);have hs:B6 us i (W [114,97,105,115,101]::(tkE x0++[G [41]])):=hs;obtain⟨a0,t0⟩:=hs.head;obtain⟨a2,t2⟩:=B6.mid hs.tail;obtain⟨y0,hy0,hr0⟩:=h0.run hE hs.tail (fun a=>by rfl);refine⟨⟨_,t0,by rfl⟩,D4 18 a0 [y0],sE0 (SL.one hy0),?_⟩;rw[show i+(W [114,97,105,115,101]::tkE x0).length=i+1+(tkE x0).length by simp only[Lc'];omega];refine Gy t2 (by rfl) (.look t0 (Run.mayN t0 (by rfl) ?_));rw[if_neg (by decide)];refine .look t0 ?_;simp only;rw[show isB ⟨(W [114,97,105,115,101]).1,a0,(W [114,97,105,115,101]).2.1,(W [114,97,105,115,101]).2.2⟩ true [[102,117,110]]=false by rfl,if_neg (by decide)];refine Run.mayN t0 (by rfl) ?_;rw[if_neg (by decide)];refine Run.mayN t0 (by rfl) ?_;rw[if_neg (by decide)];refine Run.mayN t0 (by rfl) ?_;rw[if_neg (by decide)];refine Run.mayY t0 (by rfl) ?_;rw[if_pos rfl]
   exact .callE hr0 .retE
  | seq =>
   obtain⟨x0,x1,rfl⟩:=D5 hna;obtain rfl:=Ck hnm;refine Ay (sh:=tkE x0++(G [59]::tkE x1)) (by simp[tkE,Br,Bp,Bh]) (fun us i hE hs=>?_);obtain⟨h1,a',y0,y1,hy0,hy1,hr⟩:=Fy (show Sg [59] 0 from H1 0 (by decide)) (IH 0 x0 rfl) (IH 1 x1 rfl) hE hs
   exact⟨h1,_,Gd 0 [59] a a' hy0 hy1 rfl,hr⟩
  | and_ =>
   obtain⟨x0,x1,rfl⟩:=D5 hna;obtain rfl:=Ck hnm;refine Ay (sh:=tkE x0++(G [38,38]::tkE x1)) (by simp[tkE,Br,Bp,Bh]) (fun us i hE hs=>?_);obtain⟨h1,a',y0,y1,hy0,hy1,hr⟩:=Fy (show Sg [38,38] 3 from H1 3 (by decide)) (IH 0 x0 rfl) (IH 1 x1 rfl) hE hs
   exact⟨h1,_,Gd 3 [38,38] a a' hy0 hy1 rfl,hr⟩
  | or_ =>
   obtain⟨x0,x1,rfl⟩:=D5 hna;obtain rfl:=Ck hnm;refine Ay (sh:=tkE x0++(G [124,124]::tkE x1)) (by simp[tkE,Br,Bp,Bh]) (fun us i hE hs=>?_);obtain⟨h1,a',y0,y1,hy0,hy1,hr⟩:=Fy (show Sg [124,124] 2 from H1 2 (by decide)) (IH 0 x0 rfl) (IH 1 x1 rfl) hE hs
   exact⟨h1,_,Gd 2 [124,124] a a' hy0 hy1 rfl,hr⟩
  | op h =>
   obtain rfl:=Ck hnm;rcases op_in h.1 h.2 with rfl|rfl|rfl|rfl|rfl|rfl|rfl|rfl|rfl|rfl|rfl|rfl|rfl|rfl|rfl|rfl|rfl|rfl|rfl|rfl|rfl
   ·obtain⟨x0,x1,rfl⟩:=D5 hna;refine Ay (sh:=tkE x0++(G [43]::tkE x1)) (by simp[tkE,Br,Bp,Bh,opK,En,Bx]) (fun us i hE hs=>?_);obtain⟨h1,a',y0,y1,hy0,hy1,hr⟩:=Fy (show Sg [43] 5 from H1 6 (by decide)) (IH 0 x0 rfl) (IH 1 x1 rfl) hE hs;exact⟨h1,_,Gd 5 [43] a a' hy0 hy1 rfl,hr⟩
   ·obtain⟨x0,x1,rfl⟩:=D5 hna;refine Ay (sh:=tkE x0++(G [45]::tkE x1)) (by simp[tkE,Br,Bp,Bh,opK,En,Bx]) (fun us i hE hs=>?_);obtain⟨h1,a',y0,y1,hy0,hy1,hr⟩:=Fy (show Sg [45] 5 from H1 7 (by decide)) (IH 0 x0 rfl) (IH 1 x1 rfl) hE hs;exact⟨h1,_,Gd 5 [45] a a' hy0 hy1 rfl,hr⟩
   ·obtain⟨x0,x1,rfl⟩:=D5 hna;refine Ay (sh:=tkE x0++(G [42]::tkE x1)) (by simp[tkE,Br,Bp,Bh,opK,En,Bx]) (fun us i hE hs=>?_);obtain⟨h1,a',y0,y1,hy0,hy1,hr⟩:=Fy (show Sg [42] 6 from H1 8 (by decide)) (IH 0 x0 rfl) (IH 1 x1 rfl) hE hs;exact⟨h1,_,Gd 6 [42] a a' hy0 hy1 rfl,hr⟩
   ·obtain⟨x0,x1,rfl⟩:=D5 hna;refine Ay (sh:=tkE x0++(G [47]::tkE x1)) (by simp[tkE,Br,Bp,Bh,opK,En,Bx]) (fun us i hE hs=>?_);obtain⟨h1,a',y0,y1,hy0,hy1,hr⟩:=Fy (show Sg [47] 6 from H1 9 (by decide)) (IH 0 x0 rfl) (IH 1 x1 rfl) hE hs;exact⟨h1,_,Gd 6 [47] a a' hy0 hy1 rfl,hr⟩
   ·obtain⟨x0,x1,rfl⟩:=D5 hna;refine Ay (sh:=tkE x0++(G [37]::tkE x1)) (by simp[tkE,Br,Bp,Bh,opK,En,Bx]) (fun us i hE hs=>?_);obtain⟨h1,a',y0,y1,hy0,hy1,hr⟩:=Fy (show Sg [37] 6 from H1 10 (by decide)) (IH 0 x0 rfl) (IH 1 x1 rfl) hE hs;exact⟨h1,_,Gd 6 [37] a a' hy0 hy1 rfl,hr⟩
   ·obtain⟨x0,rfl⟩:=Ei hna;have h0:=IH 0 x0 rfl;refine Ay (sh:=G [45]::tkE x0) (by simp[tkE,Br,Bp,Bh,opK,En,Bx]) (fun us i hE hs=>?_);have hs:B6 us i (G [45]::(tkE x0++[G [41]])):=hs;obtain⟨a0,t0⟩:=hs.head;obtain⟨a2,t2⟩:=B6.mid hs.tail;rw[show i+(G [45]::tkE x0).length=i+1+(tkE x0).length by simp only[Lc'];omega];obtain⟨y0,hy0,hr0⟩:=h0.at_ hE hs.tail (fun a=>Fq a 0) 7 (by decide) (by decide)
    have hk:Fi1 ⟨7,a0,[45],0⟩:=⟨rfl,rfl,rfl,rfl,rfl,rfl⟩
    refine⟨⟨_,t0,by rfl⟩,opE 6 a0 [y0],sE0 (SL.one hy0),Nc t0 hk t2 (Fq a2 0) (.look t0 (Run.mayY t0 (by rfl) ?_))⟩;rw[if_pos rfl];exact .callE hr0 .retE
   ·obtain⟨x0,x1,rfl⟩:=D5 hna;refine Ay (sh:=tkE x0++(G [61]::tkE x1)) (by simp[tkE,Br,Bp,Bh,opK,En,Bx]) (fun us i hE hs=>?_);obtain⟨h1,a',y0,y1,hy0,hy1,hr⟩:=Fy (show Sg [61] 4 from H1 4 (by decide)) (IH 0 x0 rfl) (IH 1 x1 rfl) hE hs;exact⟨h1,_,Gd 4 [61] a a' hy0 hy1 rfl,hr⟩
   ·obtain⟨x0,x1,rfl⟩:=D5 hna;refine Ay (sh:=tkE x0++(G [60]::tkE x1)) (by simp[tkE,Br,Bp,Bh,opK,En,Bx]) (fun us i hE hs=>?_);obtain⟨h1,a',y0,y1,hy0,hy1,hr⟩:=Fy (show Sg [60] 4 from H1 5 (by decide)) (IH 0 x0 rfl) (IH 1 x1 rfl) hE hs;exact⟨h1,_,Gd 4 [60] a a' hy0 hy1 rfl,hr⟩
   ·obtain⟨x0,rfl⟩:=Ei hna;have h0:=IH 0 x0 rfl;refine Ay (sh:=W [110,111,116]::tkE x0) (by simp[tkE,Br,Bp,Bh,opK,En,Bx]) (fun us i hE hs=>?_);have hs:B6 us i (W [110,111,116]::(tkE x0++[G [41]])):=hs;obtain⟨a0,t0⟩:=hs.head;obtain⟨a2,t2⟩:=B6.mid hs.tail;rw[show i+(W [110,111,116]::tkE x0).length=i+1+(tkE x0).length by simp only[Lc'];omega];obtain⟨y0,hy0,hr0⟩:=h0.at_ hE hs.tail (fun a=>Fq a 0) 7 (by decide) (by decide)
    have hk:Fi1 ⟨6,a0,[110,111,116],0⟩:=⟨rfl,rfl,rfl,rfl,rfl,rfl⟩
    refine⟨⟨_,t0,by rfl⟩,opE 9 a0 [y0],sE0 (SL.one hy0),Nc t0 hk t2 (Fq a2 0) (.look t0 (Run.mayN t0 (by rfl) ?_))⟩;rw[if_neg (by decide)];refine Run.mayY t0 (by rfl) ?_;rw[if_pos rfl];exact .callE hr0 .retE
   ·refine Ay (sh:=W [114,101,102]::Ek (Br args)) (by simp[tkE,Bp,Bh,opK,En,Bx]) (fun us i hE hs=>?_);exact Gp (by decide) (by decide) (by decide) hE IH hna hs
   ·obtain⟨x0,rfl⟩:=Ei hna;have h0:=IH 0 x0 rfl;refine Ay (sh:=G [33]::tkE x0) (by simp[tkE,Br,Bp,Bh,opK,En,Bx]) (fun us i hE hs=>?_);have hs:B6 us i (G [33]::(tkE x0++[G [41]])):=hs;obtain⟨a0,t0⟩:=hs.head;obtain⟨a2,t2⟩:=B6.mid hs.tail;rw[show i+(G [33]::tkE x0).length=i+1+(tkE x0).length by simp only[Lc'];omega];obtain⟨y0,hy0,hr0⟩:=h0.run hE hs.tail (fun a=>by rfl);have hk:Fi2 ⟨7,a0,[33],0⟩:=Um (.inr rfl) (by decide);refine⟨⟨_,t0,by rfl⟩,opE 11 a0 [y0],sE0 (SL.one hy0),Nc t0 hk.one t2 (Fq a2 0) (Wc t0 hk (Wi t0 ⟨hk,by show(7:Int)≠3;decide,fun e=>by cases e⟩ (.look t0 (Run.mayY t0 (by rfl) ?_)) (Mj t2 (by rfl))))⟩;rw[if_pos rfl];exact .callE hr0 .retE
   ·obtain⟨x0,x1,rfl⟩:=D5 hna;refine Ay (sh:=tkE x0++(G [58,61]::tkE x1)) (by simp[tkE,Br,Bp,Bh,opK,En,Bx]) (fun us i hE hs=>?_);obtain⟨h1,a',y0,y1,hy0,hy1,hr⟩:=Fy (show Sg [58,61] 1 from H1 1 (by decide)) (IH 0 x0 rfl) (IH 1 x1 rfl) hE hs;exact⟨h1,_,Gd 1 [58,61] a a' hy0 hy1 rfl,hr⟩
   ·refine Ay (sh:=W [97,114,114,97,121]::Ek (Br args)) (by simp[tkE,Bp,Bh,opK,En,Bx]) (fun us i hE hs=>?_);exact Gp (by decide) (by decide) (by decide) hE IH hna hs
   ·refine Ay (sh:=W [103,101,116]::Ek (Br args)) (by simp[tkE,Bp,Bh,opK,En,Bx]) (fun us i hE hs=>?_);exact Gp (by decide) (by decide) (by decide) hE IH hna hs
   ·refine Ay (sh:=W [115,101,116]::Ek (Br args)) (by simp[tkE,Bp,Bh,opK,En,Bx]) (fun us i hE hs=>?_);exact Gp (by decide) (by decide) (by decide) hE IH hna hs
   ·refine Ay (sh:=W [108,101,110]::Ek (Br args)) (by simp[tkE,Bp,Bh,opK,En,Bx]) (fun us i hE hs=>?_);exact Gp (by decide) (by decide) (by decide) hE IH hna hs
   ·refine Ay (sh:=W [115,105,122,101]::Ek (Br args)) (by simp[tkE,Bp,Bh,opK,En,Bx]) (fun us i hE hs=>?_);exact Gp (by decide) (by decide) (by decide) hE IH hna hs
   ·refine Ay (sh:=W [98,121,116,101]::Ek (Br args)) (by simp[tkE,Bp,Bh,opK,En,Bx]) (fun us i hE hs=>?_);exact Gp (by decide) (by decide) (by decide) hE IH hna hs
   ·refine Ay (sh:=W [99,97,116]::Ek (Br args)) (by simp[tkE,Bp,Bh,opK,En,Bx]) (fun us i hE hs=>?_);exact Gp (by decide) (by decide) (by decide) hE IH hna hs
   ·refine Ay (sh:=W [103,101,116,99]::Ek (Br args)) (by simp[tkE,Bp,Bh,opK,En,Bx]) (fun us i hE hs=>?_);exact Gp (by decide) (by decide) (by decide) hE IH hna hs
   ·refine Ay (sh:=W [112,117,116,99]::Ek (Br args)) (by simp[tkE,Bp,Bh,opK,En,Bx]) (fun us i hE hs=>?_);exact Gp (by decide) (by decide) (by decide) hE IH hna hs
theorem I6{s:LB}{L:List Sp}(hl:s.length≤4096)(h:At s=some L):∃ ts,Da s = .ok ts∧ts.map Lr=L:=by
 unfold At at h;unfold Da;rw[if_neg (by omega)]
 cases e:E1 s.length 0 s with
 | error x=>rw[e] at h;cases h
 | ok ts=>rw[e] at h;exact⟨ts,rfl,by simpa [stR] using h⟩
def Tn:NT→Ab→Prop
 | .fn,x=>Be x=true∧x.k_=7
 | _,x=>Be x=true
theorem Tn.may{nt:NT}{x:Ab}(h:Tn nt x):Be x=true:=by cases nt <;> first|exact h.1|exact h
end Go.Proofs.YtabhpdhajajoiaaGreatDoor
