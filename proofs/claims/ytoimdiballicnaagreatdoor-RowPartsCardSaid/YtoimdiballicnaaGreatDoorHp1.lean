/- A part of the proof: Uk, Ul, Ur, Uw, Ja, Jf, Jt, Kn, Ju, Cc, Ct, Cq. -/
import Derived.Deep.AppendLies
import Derived.Deep.RegionHeld3
import Derived.Deep.DeepCutAuto
import Derived.Test.YtoimdiballicnaaGreatDoorHb11
namespace Go.Proofs.YtoimdiballicnaaGreatDoor
open Go.RowKit
set_option linter.all false
set_option maxHeartbeats 16000000
set_option maxRecDepth 100000
def Sm(A B:Ab):Prop:=B.s=A.s∧B.most=A.most
def SmR(r q:Int×Ab):Prop:=r.1=3∨q.1=3∨(r.1=q.1∧Sm r.2 q.2)
theorem grown_cases(A:Ab):A.grown=0∨A.grown=3:=by unfold Ab.grown;split <;> simp
theorem put_sm{A B:Ab}(h:Sm A B)(u:Sub):SmR (A.put u) (B.put u):=by
 unfold Ab.put SmR
 dsimp only
 rcases grown_cases { A with s:=cmp u A.s } with e1|e1
 ·rcases grown_cases { B with s:=cmp u B.s } with e2|e2
  ·exact .inr (.inr ⟨by rw[e1,e2],by rw[h.1],h.2⟩)
  ·exact .inr (.inl e2)
 ·exact .inl e1
theorem bindA_sm{A B:Ab}(h:Sm A B)(v:Int)(t:TyT):SmR (bindA A v t) (bindA B v t):=by
 unfold bindA;split
 ·exact .inr (.inr ⟨rfl,h⟩)
 ·exact put_sm h _
theorem restA_sm{A B:Ab}(h:Sm A B)(v:Int)(fs:List Fd)(r:Int):SmR (restA A v fs r) (restA B v fs r):=by
 unfold restA;rw[h.1];split
 ·exact .inr (.inr ⟨rfl,h⟩)
 ·exact put_sm h _
theorem absA_sm{A B:Ab}(h:Sm A B)(f:Fd):SmR (absA A f) (absA B f):=by
 unfold absA;rw[h.1];split
 ·exact .inr (.inr ⟨rfl,h⟩)
 ·split
  ·exact put_sm h _
  ·exact .inr (.inr ⟨rfl,h⟩)
theorem presA_sm{A B:Ab}(h:Sm A B)(f g:Fd):SmR (presA A f g) (presA B f g):=by
 unfold presA;split
 ·exact .inr (.inr ⟨rfl,h⟩)
 ·split
  ·exact put_sm h _
  ·split
   ·exact put_sm h _
   ·split
    ·exact .inr (.inr ⟨rfl,h⟩)
    ·exact .inr (.inr ⟨rfl,h⟩)
theorem restsA_sm{A B:Ab}(h:Sm A B)(a b:Int)(o1 o2:List Fd):SmR (restsA A a b o1 o2) (restsA B a b o1 o2):=by
 unfold restsA
 split
 ·split
  ·exact .inr (.inr ⟨rfl,h⟩)
  ·exact .inr (.inr ⟨rfl,h⟩)
 ·split
  ·exact restA_sm h _ _ _
  ·split
   ·exact restA_sm h _ _ _
   ·split
    ·exact restA_sm h _ _ _
    ·dsimp only
     have h1:Sm { A with most:=A.most+1 } { B with most:=B.most+1 }:=⟨h.1,by show B.most+1=A.most+1;rw[h.2]⟩
     have k:=restA_sm h1 a o2 (A.most+1)
     rw[h.2] at k ⊢
     generalize restA { A with most:=A.most+1 } a o2 (A.most+1)=r at *
     generalize restA { B with most:=A.most+1 } a o2 (A.most+1)=q at *
     rcases k with k|k|⟨k1,k2⟩
     ·left;rw[if_pos (by omega)];exact k
     ·right;left;rw[if_pos (by omega)];exact k
     ·rw[k1]
      by_cases c:q.1≠0
      ·rw[if_pos c,if_pos c];exact .inr (.inr ⟨k1,k2⟩)
      ·rw[if_neg c,if_neg c];exact restA_sm k2 _ _ _
theorem told_sm{A B:Ab}(h:Sm A B)(v:Int):told B v=told A v:=by unfold told;rw[h.1]
def SmT(n:Nat):Prop:=∀ A B x y r q,Sm A B→uni n A x y=some r→uni n B x y=some q→SmR r q
def SmL(n:Nat):Prop:=∀ A B x y r q,Sm A B→uniL n A x y=some r→uniL n B x y=some q→SmR r q
def SmRw(n:Nat):Prop:=∀ A B F ra Gs rb r q,Sm A B→uniR n A F ra Gs rb=some r→uniR n B F ra Gs rb=some q→SmR r q
def SmM(n:Nat):Prop:=∀ A B a b ls r q,Sm A B→uniM n A a b ls=some r→uniM n B a b ls=some q→SmR r q
def SmX(n:Nat):Prop:=∀ A B a b x r q,Sm A B→uniX n A a b x=some r→uniX n B a b x=some q→SmR r q
theorem smR_then{r q r' q':Int×Ab}{f g:Option (Int×Ab)}(h:SmR r q)(hr:(if r.1≠0 then some r else f)=some r')(hq:(if q.1≠0 then some q else g)=some q')(hk:r.1=0→q.1=0→Sm r.2 q.2→f=some r'→g=some q'→SmR r' q'):SmR r' q':=by
 rcases h with h|h|⟨h1,h2⟩
 ·rw[if_pos (by omega)] at hr;cases hr;exact .inl h
 ·rw[if_pos (by omega)] at hq;cases hq;exact .inr (.inl h)
 ·by_cases c:r.1≠0
  ·rw[if_pos c] at hr;rw[if_pos (by omega)] at hq
   cases hr;cases hq;exact .inr (.inr ⟨h1,h2⟩)
  ·rw[if_neg c] at hr;rw[if_neg (by omega)] at hq
   exact hk (by omega) (by omega) h2 hr hq
theorem sm_all:∀ n,SmT n∧SmL n∧SmRw n∧SmM n∧SmX n
 | 0=>⟨(fun _ _ _ _ _ _ _ h=>by rw[uni] at h;cases h),(fun _ _ _ _ _ _ _ h=>by rw[uniL] at h;cases h),(fun _ _ _ _ _ _ _ _ _ h=>by rw[uniR] at h;cases h),(fun _ _ _ _ _ _ _ _ h=>by rw[uniM] at h;cases h),(fun _ _ _ _ _ _ _ _ h=>by rw[uniX] at h;cases h)⟩
 | n+1=>by
  obtain⟨hT,hL,hR,hM,hX⟩:=sm_all n
  refine⟨fun A B x y r q hs h k=>?_,fun A B l m r q hs h k=>?_,fun A B F ra Gs rb r q hs h k=>?_,fun A B a b ls r q hs h k=>?_,fun A B a b x r q hs h k=>?_⟩
  ·rw[uni] at h k
   rw[hs.1] at k
   split at h
   ·rename_i c;rw[if_pos c] at k;cases h;cases k;exact .inr (.inr ⟨rfl,hs⟩)
   ·rename_i c1;rw[if_neg c1] at k
    split at h
    ·rename_i c;rw[if_pos c] at k;cases h;cases k;exact bindA_sm hs _ _
    ·rename_i c2;rw[if_neg c2] at k
     split at h
     ·rename_i c;rw[if_pos c] at k;cases h;cases k;exact bindA_sm hs _ _
     ·rename_i c3;rw[if_neg c3] at k
      split at h
      ·rename_i c;rw[if_pos c] at k;cases h;cases k;exact .inr (.inr ⟨rfl,hs⟩)
      ·rename_i c4;rw[if_neg c4] at k
       cases hu:uniL n A (ap A.s x).args (ap A.s y).args with
       | none=>rw[hu] at h;cases h
       | some r1 =>
        cases hv:uniL n B (ap A.s x).args (ap A.s y).args with
        | none=>rw[hv] at k;cases k
        | some q1 =>
         obtain⟨e,A1⟩:=r1
         obtain⟨f,B1⟩:=q1
         rw[hu] at h;rw[hv] at k
         dsimp only at h k
         refine smR_then (hL _ _ _ _ _ _ hs hu hv) h k (fun _ _ s h k=>?_)
         split at h
         ·rename_i c;rw[if_pos c] at k;exact hR _ _ _ _ _ _ _ _ s h k
         ·rename_i c;rw[if_neg c] at k;cases h;cases k;exact .inr (.inr ⟨rfl,s⟩)
  ·cases l with
   | nil=>rw[uniL] at h k <;> first|(cases h;cases k;exact .inr (.inr ⟨rfl,hs⟩))| simp
   | cons x l =>
    cases m with
    | nil=>rw[uniL] at h k <;> first|(cases h;cases k;exact .inr (.inr ⟨rfl,hs⟩))| simp
    | cons y m =>
     rw[uniL] at h k
     cases hu:uni n A x y with
     | none=>rw[hu] at h;cases h
     | some r1 =>
      cases hv:uni n B x y with
      | none=>rw[hv] at k;cases k
      | some q1 =>
       obtain⟨e,A1⟩:=r1
       obtain⟨f,B1⟩:=q1
       rw[hu] at h;rw[hv] at k
       dsimp only at h k
       exact smR_then (hT _ _ _ _ _ _ hs hu hv) h k (fun _ _ s h k=>hL _ _ _ _ _ _ s h k)
  ·rw[uniR] at h k
   rw[hs.1] at k
   generalize apRow A.s F ra=a at *
   generalize apRow A.s Gs rb=b at *
   cases hu:uniM n A a b (lsOf a.1 b.1)with
   | none=>rw[hu] at h;cases h
   | some r1 =>
    cases hv:uniM n B a b (lsOf a.1 b.1)with
    | none=>rw[hv] at k;cases k
    | some q1 =>
     obtain⟨e,A1⟩:=r1
     obtain⟨f,B1⟩:=q1
     rw[hu] at h;rw[hv] at k
     dsimp only at h k
     refine smR_then (hM _ _ _ _ _ _ _ hs hu hv) h k (fun _ _ s h k=>?_)
     dsimp only at s
     rw[told_sm s,told_sm s] at k
     split at h
     ·rename_i c;rw[if_pos c] at k;exact hR _ _ _ _ _ _ _ _ s h k
     ·rename_i c;rw[if_neg c] at k;cases h;cases k;exact restsA_sm s _ _ _ _
  ·cases ls with
   | nil=>rw[uniM] at h k;cases h;cases k;exact .inr (.inr ⟨rfl,hs⟩)
   | cons x ls =>
    rw[uniM] at h k
    cases hu:uniX n A a b x with
    | none=>rw[hu] at h;cases h
    | some r1 =>
     cases hv:uniX n B a b x with
     | none=>rw[hv] at k;cases k
     | some q1 =>
      obtain⟨e,A1⟩:=r1
      obtain⟨f,B1⟩:=q1
      rw[hu] at h;rw[hv] at k
      dsimp only at h k
      exact smR_then (hX _ _ _ _ _ _ _ hs hu hv) h k (fun _ _ s h k=>hM _ _ _ _ _ _ _ s h k)
  ·rw[uniX] at h k
   rw[hs.1] at k
   cases h1:fnd x a.1 with
   | none =>
    rw[h1] at h k
    cases h2:fnd x b.1 with
    | none=>rw[h2] at h k;cases h;cases k;exact .inr (.inr ⟨rfl,hs⟩)
    | some g =>
     rw[h2] at h k
     dsimp only at h k
     cases h;cases k
     split
     ·exact absA_sm hs _
     ·exact .inr (.inr ⟨rfl,hs⟩)
   | some f =>
    rw[h1] at h k
    cases h2:fnd x b.1 with
    | none =>
     rw[h2] at h k
     dsimp only at h k
     cases h;cases k
     split
     ·exact absA_sm hs _
     ·exact .inr (.inr ⟨rfl,hs⟩)
    | some g =>
     rw[h2] at h k
     dsimp only at h k
     have kk:=presA_sm hs (apF A.s f) (apF A.s g)
     generalize presA A (apF A.s f) (apF A.s g)=r1 at *
     generalize presA B (apF A.s f) (apF A.s g)=q1 at *
     rcases kk with c|c|⟨c1,c2⟩
     ·rw[if_pos (.inl (by omega))] at h;cases h;exact .inl c
     ·rw[if_pos (.inl (by omega))] at k;cases k;exact .inr (.inl c)
     ·rw[← c1] at k
      split at h
      ·rename_i c;rw[if_pos c] at k;cases h;cases k;exact .inr (.inr ⟨c1,c2⟩)
      ·rename_i c;rw[if_neg c] at k;exact hT _ _ _ _ _ _ c2 h k
def Gr0(A:Ab)(r:Int×Ab):Prop:=A.grown=0→r.1=0→r.2.grown=0
theorem put_gr(A:Ab)(u:Sub):Gr0 A (A.put u):=fun _ h=>h
theorem bindA_gr(A:Ab)(v:Int)(t:TyT):Gr0 A (bindA A v t):=by
 unfold bindA;split
 ·exact fun h _=>h
 ·exact put_gr _ _
theorem restA_gr(A:Ab)(v:Int)(fs:List Fd)(r:Int):Gr0 A (restA A v fs r):=by
 unfold restA;split
 ·exact fun h _=>h
 ·exact put_gr _ _
theorem absA_gr(A:Ab)(f:Fd):Gr0 A (absA A f):=by
 unfold absA;split
 ·exact fun h _=>h
 ·split
  ·exact put_gr _ _
  ·exact fun h _=>h
theorem presA_gr(A:Ab)(f g:Fd):Gr0 A (presA A f g):=by
 unfold presA;split
 ·exact fun h _=>h
 ·split
  ·exact put_gr _ _
  ·split
   ·exact put_gr _ _
   ·split <;> exact fun h _=>h
theorem restsA_gr(A:Ab)(a b:Int)(o1 o2:List Fd):Gr0 A (restsA A a b o1 o2):=by
 unfold restsA
 split
 ·split <;> exact fun h _=>h
 ·split
  ·exact restA_gr _ _ _ _
  ·split
   ·exact restA_gr _ _ _ _
   ·split
    ·exact restA_gr _ _ _ _
    ·dsimp only
     have k:=restA_gr { A with most:=A.most+1 } a o2 (A.most+1)
     intro hg he
     split at he
     ·rename_i c;exact absurd he c
     ·rename_i c;rw[if_neg c]
      exact restA_gr _ _ _ _ (k hg (Decidable.not_not.1 c)) he
theorem gr_all:∀ n,(∀ A x y r,uni n A x y=some r→Gr0 A r)∧(∀ A l m r,uniL n A l m=some r→Gr0 A r)∧(∀ A F ra Gs rb r,uniR n A F ra Gs rb=some r→Gr0 A r)∧(∀ A q p ls r,uniM n A q p ls=some r→Gr0 A r)∧(∀ A q p x r,uniX n A q p x=some r→Gr0 A r)
 | 0=>⟨(fun _ _ _ _ h=>by rw[uni] at h;cases h),(fun _ _ _ _ h=>by rw[uniL] at h;cases h),(fun _ _ _ _ _ _ h=>by rw[uniR] at h;cases h),(fun _ _ _ _ _ h=>by rw[uniM] at h;cases h),(fun _ _ _ _ _ h=>by rw[uniX] at h;cases h)⟩
 | n+1=>by
  obtain⟨hT,hL,hR,hM,hX⟩:=gr_all n
  have next:∀ {A:Ab} {r r':Int×Ab} {f:Option (Int×Ab)},Gr0 A r→(if r.1≠0 then some r else f)=some r'→(f=some r'→Gr0 r.2 r')→Gr0 A r':=fun{A r r' f} h hr hk hg he=>by
   by_cases c:r.1≠0
   ·rw[if_pos c] at hr;cases hr;exact absurd he c
   ·rw[if_neg c] at hr;exact hk hr (h hg (Decidable.not_not.1 c)) he
  refine⟨fun A x y r h=>?_,fun A l m r h=>?_,fun A F ra Gs rb r h=>?_,fun A q p ls r h=>?_,fun A q p x r h=>?_⟩
  ·rw[uni] at h
   split at h
   ·cases h;exact fun h _=>h
   ·split at h
    ·cases h;exact bindA_gr _ _ _
    ·split at h
     ·cases h;exact bindA_gr _ _ _
     ·split at h
      ·cases h;exact fun h _=>h
      ·cases hu:uniL n A (ap A.s x).args (ap A.s y).args with
       | none=>rw[hu] at h;cases h
       | some r1 =>
        obtain⟨e,A1⟩:=r1
        rw[hu] at h
        dsimp only at h
        refine next (hL _ _ _ _ hu) h (fun h=>?_)
        split at h
        ·exact hR _ _ _ _ _ _ h
        ·cases h;exact fun h _=>h
  ·cases l with
   | nil=>rw[uniL] at h <;> first|(cases h;exact fun h _=>h)| simp
   | cons x l =>
    cases m with
    | nil=>rw[uniL] at h <;> first|(cases h;exact fun h _=>h)| simp
    | cons y m =>
     rw[uniL] at h
     cases hu:uni n A x y with
     | none=>rw[hu] at h;cases h
     | some r1 =>
      obtain⟨e,A1⟩:=r1
      rw[hu] at h
      dsimp only at h
      exact next (hT _ _ _ _ hu) h (fun h=>hL _ _ _ _ h)
  ·rw[uniR] at h
   cases hu:uniM n A (apRow A.s F ra) (apRow A.s Gs rb) (lsOf (apRow A.s F ra).1 (apRow A.s Gs rb).1)with
   | none=>rw[hu] at h;cases h
   | some r1 =>
    obtain⟨e,A1⟩:=r1
    rw[hu] at h
    dsimp only at h
    refine next (hM _ _ _ _ _ hu) h (fun h=>?_)
    split at h
    ·exact hR _ _ _ _ _ _ h
    ·cases h;exact restsA_gr _ _ _ _ _
  ·cases ls with
   | nil=>rw[uniM] at h;cases h;exact fun h _=>h
   | cons x ls =>
    rw[uniM] at h
    cases hu:uniX n A q p x with
    | none=>rw[hu] at h;cases h
    | some r1 =>
     obtain⟨e,A1⟩:=r1
     rw[hu] at h
     dsimp only at h
     exact next (hX _ _ _ _ _ hu) h (fun h=>hM _ _ _ _ _ h)
  ·rw[uniX] at h
   cases h1:fnd x q.1 with
   | none =>
    rw[h1] at h
    cases h2:fnd x p.1 with
    | none=>rw[h2] at h;cases h;exact fun h _=>h
    | some g =>
     rw[h2] at h
     cases h
     split
     ·exact absA_gr _ _
     ·exact fun h _=>h
   | some f =>
    rw[h1] at h
    cases h2:fnd x p.1 with
    | none =>
     rw[h2] at h
     cases h
     split
     ·exact absA_gr _ _
     ·exact fun h _=>h
    | some g =>
     rw[h2] at h
     dsimp only at h
     have kk:=presA_gr A (apF A.s f) (apF A.s g)
     split at h
     ·cases h;exact kk
     ·rename_i c
      have he:(presA A (apF A.s f) (apF A.s g)).1=0:=Classical.byContradiction (fun h=>c (.inl h))
      exact fun hg h0=>hT _ _ _ _ h (kk hg he) h0
theorem renTs_map(g:Int→Int)(l:List TyT):renTs g l=l.map (ren g):=by
 induction l with
 | nil=>rfl
 | cons x l ih=>rw[renTs,ih];rfl
theorem sd_of_ri{l:List Fd}(h:Ri (labs l)):Sd l:=(List.pairwise_map.1 h).imp (fun{a b} hab=>ltB_asym hab)
theorem one_nrm{G:Ctx}{k:Int}{C:List UInt8→Prop}{fs:List Fd}{r:Int}(h:RowOk G k C fs r):nrm fs r=(fs,r):=by
 unfold nrm
 rw[srt_id (sd_of_ri h.1)]
 by_cases e:r=0
 ·rw[if_pos e,List.filter_eq_self.2 (fun f hf=>by
   unfold here
   exact bne_iff_ne.2 (fun c=>(h.2.1 f hf).2.2 c e))]
 ·rw[if_neg e]
mutual
theorem one_fix{G:Ctx}:∀ {t:TyT},WfT G t→FixT .one t
 | .mk k v args fs rest,h=>by
  rw[WfT] at h
  rw[FixT]
  have h6:=h.2.2.2.2.2
  by_cases h1:k=1
  ·subst h1
   rw[if_pos rfl]
   rw[if_neg (by decide)] at h6
   have h0:(some 0:Option Nat)=some args.length:=h.1
   exact⟨rfl,List.eq_nil_of_length_eq_zero (Option.some.inj h0).symm,h6⟩
  ·rw[if_neg h1]
   refine⟨oneTs_fix h.2.2.2.1,?_⟩
   by_cases h2:rwd k=true
   ·rw[if_pos h2] at h6 ⊢
    exact⟨oneFs_fix h.2.2.2.2.1,rfl,one_nrm h6⟩
   ·rw[if_neg h2] at h6 ⊢;exact h6
theorem oneTs_fix{G:Ctx}:∀ {l:List TyT},WfTs G l→FixTs .one l
 | [],_=>trivial
 | x::l,h=>by rw[WfTs] at h;rw[FixTs];exact⟨one_fix h.1,oneTs_fix h.2⟩
theorem oneFs_fix{G:Ctx}:∀ {l:List Fd},WfFs G l→FixFs .one l
 | [],_=>trivial
 | x::l,h=>by rw[WfFs] at h;rw[FixFs];exact⟨oneF_fix h.1,oneFs_fix h.2⟩
theorem oneF_fix{G:Ctx}:∀ {f:Fd},WfF G f→FixF .one f
 | ⟨lb,pr,p,t⟩,h=>by
  rw[WfF] at h
  rw[FixF]
  rcases h with⟨rfl,rfl,rfl⟩| ⟨rfl,rfl,ht⟩| ⟨rfl,hp,hg,ht⟩
  ·rw[if_pos rfl]
  ·rw[if_neg (by decide)];exact⟨one_fix ht,fun e=>by cases e⟩
  ·rw[if_neg (by decide)];exact⟨one_fix ht,fun _=>rfl⟩
end
theorem one_ap{G:Ctx}{t:TyT}(h:WfT G t):ap .one t=t:=fix_ap (one_fix h)
mutual
theorem ren_ext{f h:Int→Int}:∀ {t:TyT},VT (fun u=>f u=h u) t→ren f t=ren h t
 | .mk k v args fs rest,e=>by
  rw[VT] at e
  rw[ren,ren,renTs_ext e.2.1,renFs_ext e.2.2.1]
  have h1:(if k=1 then f v else v)=if k=1 then h v else v:=by
   split
   ·rename_i c;exact e.1 c
   ·rfl
  have h2:(if rest=0 then 0 else f rest)=if rest=0 then 0 else h rest:=by
   split
   ·rfl
   ·rename_i c;exact e.2.2.2 c
  rw[h1,h2]
theorem renTs_ext{f h:Int→Int}:∀ {t:List TyT},VTs (fun u=>f u=h u) t→renTs f t=renTs h t
 | [],_=>rfl
 | x::l,e=>by rw[VTs] at e;rw[renTs,renTs,ren_ext e.1,renTs_ext e.2]
theorem renFs_ext{f h:Int→Int}:∀ {t:List Fd},VFs (fun u=>f u=h u) t→renFs f t=renFs h t
 | [],_=>rfl
 | x::l,e=>by rw[VFs] at e;rw[renFs,renFs,renF_ext e.1,renFs_ext e.2]
theorem renF_ext{f h:Int→Int}:∀ {t:Fd},VF (fun u=>f u=h u) t→renF f t=renF h t
 | ⟨lb,pr,p,t⟩,e=>by
  rw[VF] at e
  rw[renF,renF,ren_ext e.2]
  by_cases c:pr=2
  ·rw[if_pos c,if_pos c,e.1 c]
  ·rw[if_neg c,if_neg c]
end
def idx:List Int→Int→Int
 | [],_=>1
 | x::l,v=>if x=v then 1 else 1+idx l v
def canon(t:TyT):TyT:=ren (idx (varsT t [])) t
theorem wf_fnT{G:Ctx}{a b:TyT}:WfT G (fnT a b)↔WfT G a∧WfT G b:=by
 unfold fnT
 rw[WfT,WfTs,WfTs,WfTs,WfFs,if_neg (by decide)]
 constructor
 ·rintro⟨_,_,_,⟨h1,h2,_⟩,_⟩;exact⟨h1,h2⟩
 ·rintro⟨h1,h2⟩;exact⟨rfl,fun c=>(by cases c),fun _=>rfl,⟨h1,h2,trivial⟩,trivial,rfl,rfl⟩
theorem unify_parts{G:Ctx}{A B:Ab}{a b c d:TyT}{m:Int}{n n1 n2:Nat}{r q1 q2:Int×Ab}(sa:A.s = .one)(sb:B.s = .one)(hA:AOk G ⟨.one,m,fnT a b,fnT c d⟩)
  (hr:Unify n A (fnT a b) (fnT c d) m=some r) (h1:Unify n1 B a c m=some q1) (h2:q1.1=0→Unify n2 q1.2 b d q1.2.most=some q2) (h3:q1.1≠0→q2=q1):r.1=3∨q2.1=3∨(r.1=q2.1∧r.2.s=q2.2.s):=by
 unfold Unify at hr h1
 rw[sa] at hr
 rw[sb] at h1
 dsimp only at hr h1
 by_cases hg:Ab.grown ⟨.one,m,fnT a b,fnT c d⟩≠0
 ·rw[if_pos hg] at hr;cases hr
  rcases grown_cases ⟨.one,m,fnT a b,fnT c d⟩with e|e
  ·exact absurd e hg
  ·exact .inl e
 rw[if_neg hg] at hr
 by_cases hg1:Ab.grown ⟨.one,m,a,c⟩≠0
 ·rw[if_pos hg1] at h1;cases h1
  rw[h3 hg1]
  rcases grown_cases ⟨.one,m,a,c⟩with e|e
  ·exact absurd e hg1
  ·exact .inr (.inl e)
 rw[if_neg hg1] at h1
 obtain⟨w1,w2⟩:=wf_fnT.1 hA.wa
 obtain⟨w3,w4⟩:=wf_fnT.1 hA.wb
 cases n with
 | zero=>rw[uni] at hr;cases hr
 | succ n =>
  rw[uni] at hr
  dsimp only at hr
  rw[one_ap hA.wa,one_ap hA.wb] at hr
  rw[if_neg (fun c=>by cases c.1),if_neg (fun c=>by cases c),if_neg (fun c=>by cases c),if_neg (fun c=>c rfl)] at hr
  have ea:∀ a b:TyT,(fnT a b).args=[a,b]:=fun _ _=>rfl
  rw[ea,ea] at hr
  have hr:(match uniL n ⟨.one,m,fnT a b,fnT c d⟩ [a,b] [c,d] with|none=>none|some (e,A')=>if e≠0 then some (e,A')else some (0,A'))=some r:=by
   rw[show rwd (fnT a b).k=false from rfl] at hr;exact hr
  cases n with
  | zero=>rw[uniL] at hr;cases hr
  | succ n =>
   rw[uniL] at hr
   cases hu:uni n ⟨.one,m,fnT a b,fnT c d⟩ a c with
   | none=>rw[hu] at hr;cases hr
   | some p1 =>
    rw[hu] at hr
    have hm:=(sm_all (max n n1)).1 ⟨.one,m,fnT a b,fnT c d⟩ ⟨.one,m,a,c⟩ a c p1 q1 ⟨rfl,rfl⟩ (uni_mono (Nat.le_max_left _ _) hu) (uni_mono (Nat.le_max_right _ _) h1)
    rcases hm with e|e|⟨e1,e2⟩
    ·left
     dsimp only at hr
     rw[if_pos (by omega)] at hr
     dsimp only at hr
     rw[if_pos (by omega)] at hr
     cases hr;exact e
    ·right;left
     rw[h3 (by omega)];exact e
    ·by_cases c0:p1.1≠0
     ·right;right
      dsimp only at hr
      rw[if_pos c0] at hr
      dsimp only at hr
      rw[if_pos c0] at hr
      cases hr
      rw[h3 (by omega)]
      exact⟨e1,e2.1.symm⟩
     ·dsimp only at hr
      rw[if_neg c0] at hr
      have h2:=h2 (by omega)
      unfold Unify at h2
      dsimp only at h2
      by_cases hg2:Ab.grown ⟨q1.2.s,q1.2.most,b,d⟩≠0
      ·rw[if_pos hg2] at h2;cases h2
       rcases grown_cases ⟨q1.2.s,q1.2.most,b,d⟩with e|e
       ·exact absurd e hg2
       ·exact .inr (.inl e)
      rw[if_neg hg2] at h2
      cases n with
      | zero=>rw[uniL] at hr;cases hr
      | succ n =>
       rw[uniL] at hr
       cases hu2:uni n p1.2 b d with
       | none=>rw[hu2] at hr;cases hr
       | some p2 =>
        rw[hu2] at hr
        have hm:=(sm_all (max n n2)).1 p1.2 ⟨q1.2.s,q1.2.most,b,d⟩ b d p2 q2 ⟨e2.1,e2.2⟩ (uni_mono (Nat.le_max_left _ _) hu2) (uni_mono (Nat.le_max_right _ _) h2)
        dsimp only at hr
        have er:r.1=p2.1∧r.2=p2.2:=by
         by_cases c1:p2.1≠0
         ·rw[if_pos c1] at hr
          dsimp only at hr
          rw[if_pos c1] at hr
          cases hr;exact⟨rfl,rfl⟩
         ·rw[if_neg c1] at hr
          cases n with
          | zero=>rw[uniL] at hr;cases hr
          | succ n =>
           rw[uniL] at hr
           ·dsimp only at hr
            rw[if_neg (by simp)] at hr
            cases hr;exact⟨(Decidable.not_not.1 c1).symm,rfl⟩
           ·simp
        rw[er.1,er.2]
        rcases hm with e|e|⟨e1,e2⟩
        ·exact .inl e
        ·exact .inr (.inl e)
        ·exact .inr (.inr ⟨e1,e2.1.symm⟩)
def numL:List Int→List Int→Int→Int
 | x::l,y::m,v=>if x=v then y else numL l m v
 | _,_,v=>v
theorem numL_idx:∀ (l:List Int)(k:Int)(v:Int),v ∈ l→numL l ((List.range l.length).map (fun i=>k+(i:Nat))) v=idx l v+k-1
 | [],k,v,h=>by simp at h
 | x::l,k,v,h=>by
  rw[List.length_cons,List.range_succ_eq_map,List.map_cons,List.map_map,numL,idx]
  by_cases e:x=v
  ·rw[if_pos e,if_pos e];simp;omega
  ·rw[if_neg e,if_neg e]
   have h1:v ∈ l:=by rcases List.mem_cons.1 h with c|c;exact absurd c.symm e;exact c
   have h2:=numL_idx l (k+1) v h1
   have h3:((fun i:Nat=>k+(i:Int)) ∘ Nat.succ)=(fun i:Nat=>k+1+(i:Int)):=by funext i;simp;omega
   rw[h3,h2];omega
theorem canon_num{t:TyT}:ren (numL (varsT t []) ((List.range (varsT t []).length).map (fun i=>1+(i:Nat)))) t=canon t:=by
 unfold canon
 refine ren_ext (vt_mono (fun u hu=>?_) (vars_in t []))
 rw[numL_idx _ _ _ hu];omega
section
attribute [local go_sem ↓] Go.wp_at_zero Go.wp_at_succ
section
variable [LoB]
attribute [local instance] Ex.no
theorem number_any{W:World}{X Y:Option Addr}{cx cy:Nat}{l m:List Int}(h:IntsAt W X l)(hm:IntsAt W Y m)(hl:l.length=m.length)(hl2:l.length≤1073741824)(v:Int):
  Calls Tryz.prog 36 #[.slice X l.length cx,.slice Y m.length cy,.int .i64 v] W fun e w'=>e = .returned (.int .i64 (numL l m v))∧w'=W:=by
 have H:=Lib.hid h
 have HM:=Lib.hid hm
 have HL:=Lib.hid hl
 have q0:(l.length:Int)=m.length:=by omega
 clear h hm hl
 go_enter Tryz.func36,Tryz.ntmps36
 go_wp2_with fail
 go_loopw [7] (fun iv wr=>∃ i:Nat,iv = .int .i64 i∧wr=W∧i≤l.length∧Hid (numL l m v=numL (l.drop i) (m.drop i) v)) (fun iv wr=>l.length-(intOf iv).toNat)
 case atStart=>exact⟨0,rfl,rfl,by omega,Lib.hid rfl⟩
 case round =>
  obtain⟨i,rfl,rfl,hi,HV⟩:=hrel
  have q1:(0:Int)≤(i:Int):=by omega
  by_cases hlt:i<l.length
  ·have hlm:i<m.length:=by have:=HL.out;omega
   have hx:l[i]?=some l[i]:=List.getElem?_eq_getElem hlt
   have hy:m[i]?=some m[i]:=List.getElem?_eq_getElem hlm
   have hd:numL (l.drop i) (m.drop i) v=if l[i]=v then m[i] else numL (l.drop (i+1)) (m.drop (i+1)) v:=by
    rw[List.drop_eq_getElem_cons hlt,List.drop_eq_getElem_cons hlm,numL]
   generalize l[i]=x at hx hd
   generalize m[i]=y at hy hd
   obtain⟨g,rfl,hg,x0⟩:=H.out.at hx
   obtain⟨g',rfl,hg',y0⟩:=HM.out.at hy
   have q2:(i:Int)<(l.length:Int):=by omega
   have q4:(i:Int)<(m.length:Int):=by omega
   clear hx hy
   by_cases e:x=v
   ·have q3:(x==v)=true:=by simp[e]
    rw[if_pos e] at hd
    have HD:=Lib.hid (HV.out.trans hd)
    clear e hd
    go_wp2_with fail
    go_ret
    exact⟨by rw[HD.out];rfl,rfl⟩
   ·have q3:(x==v)=false:=beq_eq_false_iff_ne.2 e
    rw[if_neg e] at hd
    have HD:=Lib.hid (HV.out.trans hd)
    clear e hd
    go_wp2_with fail
    go_roundw
    case rel=>exact⟨i+1,by first|rfl|simp|go_num,by first|rfl|trivial,by omega,HD⟩
    case measure=>simp[intOf];omega
  ·have q2:¬ (i:Int)<(l.length:Int):=by omega
   have hd:numL l m v=v:=by
    have:=HV.out
    rw[List.drop_of_length_le (by omega)] at this
    rw[this];simp[numL]
   have HD:=Lib.hid hd
   clear hd
   go_wp2_with fail
   go_ret
   exact⟨by rw[HD.out];rfl,rfl⟩
end
section
variable [LoB]
attribute [local instance] Ex.no
def RNC(N:Nat):Prop:=∀ (w W:World)(ok:Nat→Prop)(P:List UInt8→Prop)(G:Ctx)(t:TyT)(A B X Y:Option Addr)(c d cx cy:Nat)(l m:List Int),rzT t<N→Fr [] w W→WfT G t→LimT t→l.length=m.length→l.length≤1073741824→IntsAt w X l→IntsAt w Y m →
  TyAt w ok P t [.int .i64 t.k,.int .i64 t.v,.slice A t.args.length c,.slice B t.fs.length d,.int .i64 t.rest] →
  Calls Tryz.prog 19 #[.agg #[.int .i64 t.k,.int .i64 t.v,.slice A t.args.length c,.slice B t.fs.length d,.int .i64 t.rest],.slice X l.length cx,.slice Y m.length cy] W fun e w'=>∃ (A':Option Addr) (c':Nat) (B':Option Addr) (d':Nat),e = .returned (.agg #[.int .i64 (ren (numL l m) t).k,.int .i64 (ren (numL l m) t).v,.slice A' (ren (numL l m) t).args.length c',.slice B' (ren (numL l m) t).fs.length d',.int .i64 (ren (numL l m) t).rest])∧
   TyAt w' (fun b=>okW w' b∧W.heap.size≤b) P (ren (numL l m) t) [.int .i64 (ren (numL l m) t).k,.int .i64 (ren (numL l m) t).v,.slice A' (ren (numL l m) t).args.length c',.slice B' (ren (numL l m) t).fs.length d',.int .i64 (ren (numL l m) t).rest]∧Fr [] W w'
theorem rename_step(N:Nat)(ih:RNC N):RNC (N+1):=by
 intro w W ok P G t A B X Y c d cx cy l m hN hW wt hL hlm hll hX hY ht
 obtain⟨k,v,args,fs,rest⟩:=t
 rw[rzT] at hN
 rw[LimT] at hL
 rw[WfT] at wt
 simp only[TyT.k,TyT.v,TyT.args,TyT.fs,TyT.rest] at ht ⊢
 obtain⟨v2,v3,he,har,hfs⟩:=TyAt.iff.1 ht
 cases he
 obtain⟨hal,hfl,hL3,hL4⟩:=hL
 obtain⟨wt1,wt2,wt3,wt4,wt5,wt6⟩:=wt
 have hal2:args.length≤2:=argN_le wt1
 obtain⟨g,hg⟩:∃ g,g=numL l m:=⟨_,rfl⟩
 obtain⟨Z,hZ⟩:∃ Z,Z=ren (numL l m) (.mk k v args fs rest):=⟨_,rfl⟩
 rw[← hZ]
 rw[ren,← hg] at hZ
 obtain⟨i0,hi,hz0,hz1,hz2⟩:=info_parts infoTy
 obtain⟨j0,hj,hy0,hy1,hy2⟩:=info_parts infoFd
 have HI:=Lib.hid hi
 have HZ0:=Lib.hid hz0
 have HZ1:=Lib.hid hz1
 have HZ2:=Lib.hid hz2
 have HJ:=Lib.hid hj
 have HY0:=Lib.hid hy0
 have HY1:=Lib.hid hy1
 have HY2:=Lib.hid hy2
 have HAR:=Lib.hid har
 have HFS:=Lib.hid hfs
 have IH:=Lib.hid ih
 have HN:=Lib.hid hN
 have HW:=Lib.hid hW
 have HL3:=Lib.hid (limTs_iff.1 hL3)
 have HL4:=Lib.hid (limFs_iff.1 hL4)
 have W4:=Lib.hid ((wfTs_iff G _).1 wt4)
 have W5:=Lib.hid ((wfFs_iff G _).1 wt5)
 have W2:=Lib.hid wt2
 have W3:=Lib.hid wt3
 have W6:=Lib.hid wt6
 have HLM:=Lib.hid hlm
 have HG:=Lib.hid hg
 have HZ:=Lib.hid hZ
 have HXI:=Lib.hid hX
 have HYI:=Lib.hid hY
 have hrest:0≤rest:=by
  by_cases hr:rwd k=true
  ·rw[if_pos hr] at wt6
   rcases wt6.2.2 with e|⟨e,_⟩<;> omega
  ·rw[if_neg hr] at wt6;exact Int.le_of_eq wt6.2.symm
 have f0:=(((Fr.refl [] W).alloc (.cells #[.int .i64 k,.int .i64 v,.slice A args.length c,.slice B fs.length d,.int .i64 rest] 27)).alloc (.cells #[.int .i64 0,.int .i64 0,.slice none 0 0,.slice none 0 0,.int .i64 0] 27)).alloc (.cells #[.int .i64 k,.int .i64 0,.slice none 0 0,.slice none 0 0,.int .i64 0] 27)
 have g0:=heap_old (heap_old (heap_new W (.cells #[.int .i64 k,.int .i64 v,.slice A args.length c,.slice B fs.length d,.int .i64 rest] 27)) (.cells #[.int .i64 0,.int .i64 0,.slice none 0 0,.slice none 0 0,.int .i64 0] 27)) (.cells #[.int .i64 k,.int .i64 0,.slice none 0 0,.slice none 0 0,.int .i64 0] 27)
 have g1:=heap_old (heap_new (W.alloc (.cells #[.int .i64 k,.int .i64 v,.slice A args.length c,.slice B fs.length d,.int .i64 rest] 27)) (.cells #[.int .i64 0,.int .i64 0,.slice none 0 0,.slice none 0 0,.int .i64 0] 27)) (.cells #[.int .i64 k,.int .i64 0,.slice none 0 0,.slice none 0 0,.int .i64 0] 27)
 have g2:=heap_new ((W.alloc (.cells #[.int .i64 k,.int .i64 v,.slice A args.length c,.slice B fs.length d,.int .i64 rest] 27)).alloc (.cells #[.int .i64 0,.int .i64 0,.slice none 0 0,.slice none 0 0,.int .i64 0] 27)) (.cells #[.int .i64 k,.int .i64 0,.slice none 0 0,.slice none 0 0,.int .i64 0] 27)
 rw[World.size_alloc] at g1
 rw[World.size_alloc,World.size_alloc] at g2
 obtain⟨⟨l0,l1,l2,l3,l4⟩,_⟩:=cells5 g0
 obtain⟨⟨o0,o1,o2,o3,o4⟩,oz0,oz1,oz2,oz3,oz4⟩:=cells5 g2
 have hs0:=lt_of_heap g0
 have hs2:=lt_of_heap g2
 have HF0:=Lib.hid f0
 have HG0:=Lib.hid g0
 have HG1:=Lib.hid g1
 have HG2:=Lib.hid g2
 clear ih har hfs hN hW ht f0 g0 g1 g2 hL3 hL4 wt4 wt5 wt6 wt2 wt3 hi hz0 hz1 hz2 hj hy0 hy1 hy2 hlm hg hZ hX hY wt1
 obtain⟨T0,hT0⟩:∃ T0,T0=W.heap.size:=⟨_,rfl⟩
 rw[← hT0]
 have HT0:=Lib.hid hT0
 clear hT0
 go_enter Tryz.func19,Tryz.ntmps19
 go_upto_if 16 with(fail)
 have hTT:W.heap.size=T0:=HT0.out.symm
 generalize ((W.alloc (.cells #[.int .i64 k,.int .i64 v,.slice A args.length c,.slice B fs.length d,.int .i64 rest] 27)).alloc (.cells #[.int .i64 0,.int .i64 0,.slice none 0 0,.slice none 0 0,.int .i64 0] 27)).alloc (.cells #[.int .i64 k,.int .i64 0,.slice none 0 0,.slice none 0 0,.int .i64 0] 27)=x at *
 rw[hTT]
 rw[hTT] at HG0 HG1 HG2 l0 l1 l2 l3 l4 o0 o1 o2 o3 o4 oz0 oz1 oz2 oz3 oz4 hs0 hs2
 obtain⟨v9,hv9⟩:∃ v9,v9=if k=1 then g v else v:=⟨_,rfl⟩
 have HV9:=Lib.hid hv9
 rw[← hv9] at HZ
 clear hv9
 have n1:¬ T0=T0+1+1:=by omega
 have n2:¬ T0+1+1=T0:=by omega
 have n3:¬ T0+1=T0+1+1:=by omega
 have n4:¬ T0+1+1=T0+1:=by omega
 go_cut [] (fun wx=>Hid (wx.heap[T0]?=some (.cells #[.int .i64 k,.int .i64 v,.slice A args.length c,.slice B fs.length d,.int .i64 rest] 27 (0,0)))∧Hid (wx.heap[T0+1]?=some (.cells #[.int .i64 0,.int .i64 0,.slice none 0 0,.slice none 0 0,.int .i64 0] 27 (0,0)))∧Hid (wx.heap[T0+1+1]?=some (.cells #[.int .i64 k,.int .i64 v9,.slice none 0 0,.slice none 0 0,.int .i64 0] 27 (0,0)))∧Hid (Fr [] W wx))
 case first =>
  by_cases h1:k=1
  ·have q1:(k==1)=true:=by simp[h1]
   have hv:v9=g v:=by rw[HV9.out,if_pos h1]
   have cN:=Lib.hid (number_any (HXI.out.fr (HW.out.trans HF0.out)) (HYI.out.fr (HW.out.trans HF0.out)) HLM.out hll v (cx:=cx) (cy:=cy))
   rw[← HG.out,← hv] at cN
   have fO:=(Fr.refl [T0+1+1] x).setCell (p:=⟨T0+1+1,1,none⟩) (.inl (by simp)) (.int .i64 v9)
   have R0:=Lib.hid (fO.keep HG0.out (by simp;omega))
   have R1:=Lib.hid (fO.keep HG1.out (by simp))
   have R2:Hid ((x.setCell ⟨T0+1+1,1,none⟩ (.int .i64 v9)).heap[T0+1+1]?=some (.cells #[.int .i64 k,.int .i64 v9,.slice none 0 0,.slice none 0 0,.int .i64 0] 27 (0,0))):=Lib.hid (by simp[World.setCell,Array.getElem?_modify,HG2.out])
   have R3:=Lib.hid (HF0.out.step fO (fun y hy => .inr (by simp at hy;omega)))
   clear h1 hv fO
   go_wp2_with fail
   refine cN.out.mono ?_
   rintro e w6 ⟨rfl,rfl⟩
   go_wp2_with fail
   go_meet
   exact⟨R0,R1,R2,R3⟩
  ·have q1:(k==1)=false:=beq_eq_false_iff_ne.2 h1
   have hv:v9=0:=by rw[HV9.out,if_neg h1];exact W3.out h1
   subst hv
   clear h1
   go_wp2_with fail
   go_meet
   exact⟨HG0,HG1,HG2,HF0⟩
 case rest =>
  obtain⟨HG0,HG1,HG2,HF0⟩:=hcut
  clear l0 l1 l2 l3 l4 o0 o1 o2 o3 o4 oz0 oz1 oz2 oz3 oz4 hs0 hs2
  have HA0:=Lib.hid (AppT.nil (T0+3) wc P)
  obtain⟨⟨l0,l1,l2,l3,l4⟩,_⟩:=cells5 HG0.out
  have hs0:=lt_of_heap HG0.out
  have hs2:=lt_of_heap HG2.out
  go_wp2_with fail
  go_loopw [8] (fun iv wr=>∃ (i:Nat) (don:List TyM) (A9:Option Addr) (c9:Nat),iv = .int .i64 i∧i≤args.length∧Hid (wr.heap[T0]?=some (.cells #[.int .i64 k,.int .i64 v,.slice A args.length c,.slice B fs.length d,.int .i64 rest] 27 (0,0)))∧Hid (wr.heap[T0+1]?=some (.cells #[.int .i64 0,.int .i64 0,.slice none 0 0,.slice none 0 0,.int .i64 0] 27 (0,0)))∧
   Hid (wr.heap[T0+1+1]?=some (.cells #[.int .i64 k,.int .i64 v9,.slice A9 don.length c9,.slice none 0 0,.int .i64 0] 27 (0,0)))∧Hid (don.map (·.t)=renTs g (args.take i))∧Hid (AppT (T0+3) P wr A9 c9 don)∧Hid (Fr [] W wr)) (fun iv wr=>args.length-(intOf iv).toNat)
  case atStart=>exact⟨0,[],none,0,rfl,by omega,HG0,HG1,HG2,Lib.hid rfl,HA0,HF0⟩
  case round =>
   obtain⟨i,don,A9,c9,rfl,hi,G0,G1,G2,HDN,HAP,HF⟩:=hrel
   clear HG0 HG1 HG2 HF0 HA0 l0 l1 l2 l3 l4 hs0 hs2
   have q1:(0:Int)≤(i:Int):=by omega
   have hsO:=lt_of_heap G2.out
   have hsT:=lt_of_heap G0.out
   obtain⟨⟨l0,l1,l2,l3,l4⟩,_⟩:=cells5 G0.out
   obtain⟨⟨o0,o1,o2,o3,o4⟩,oz0,oz1,oz2,oz3,oz4⟩:=cells5 G2.out
   by_cases hlt:i<args.length
   ·have hx:args[i]?=some args[i]:=List.getElem?_eq_getElem hlt
    generalize args[i]=z at hx
    have q2:(i:Int)<(args.length:Int):=by omega
    have hzm:=List.mem_of_getElem? hx
    obtain⟨gb,og,rfl,hok,hgb,B2,d2,D2,e2,hty,x0,x1,x2,x3,x4⟩:=HAR.out.at hx
    have fw:=HW.out.trans HF.out
    replace x0:=(fw.cell (p:=⟨gb,og+i * 5,none⟩) hgb (fun x=>by cases x)).trans x0
    replace x1:=(fw.cell (p:=⟨gb,og+i * 5+1,none⟩) hgb (fun x=>by cases x)).trans x1
    replace x2:=(fw.cell (p:=⟨gb,og+i * 5+2,none⟩) hgb (fun x=>by cases x)).trans x2
    replace x3:=(fw.cell (p:=⟨gb,og+i * 5+3,none⟩) hgb (fun x=>by cases x)).trans x3
    replace x4:=(fw.cell (p:=⟨gb,og+i * 5+4,none⟩) hgb (fun x=>by cases x)).trans x4
    have hgw:gb<wr.heap.size:=Nat.lt_of_lt_of_le hgb fw.size
    have hzN:rzT z<N:=by have:=rzTs_at hx;have:=HN.out;omega
    obtain⟨rz,hrz⟩:∃ rz,rz=ren g z:=⟨_,rfl⟩
    have cS:=fun X' (hX':Fr [] W X')=>Lib.hid (IH.out w X' ok P G z B2 D2 X Y d2 e2 cx cy l m hzN (HW.out.trans hX') (W4.out z hzm) (HL3.out z hzm) HLM.out hll HXI.out HYI.out hty)
    rw[← HG.out,← hrz] at cS
    have hdl:don.length≤2:=by
     have h1:=congrArg List.length HDN.out
     rw[List.length_map,renTs_map,List.length_map,List.length_take] at h1
     omega
    have HX:=Lib.hid hx
    have HRZ:=Lib.hid hrz
    have HOB:Hid (∀ b,b<T0+3→some b≠(Value.slice A9 don.length c9).ownBlock):=Lib.hid (fun b hb e=>by have:=(HAP.out.lo b e.symm).1;omega)
    have k7:=G2.out
    have t7:=G0.out
    clear hx hok hty fw hzm hzN hrz
    have hs3:T0+3≤wr.heap.size:=by omega
    have hgb3:gb<T0+3:=by have:=HW.out.size;omega
    have hgbO:¬ gb=T0+1+1:=by have:=HW.out.size;omega
    have hgbO2:¬ T0+1+1=gb:=by have:=HW.out.size;omega
    go_upto_region 7 with(fail)
    refine wp_region_tail1 13 (fun w'=>(w'.cell? ⟨T0,2,none⟩=some (.slice (some ⟨gb,og,none⟩) args.length c)∧(w'.cell? ⟨gb,og+i * 5,none⟩=some (.int .i64 z.k)∧w'.cell? ⟨gb,og+i * 5+1,none⟩=some (.int .i64 z.v)∧w'.cell? ⟨gb,og+i * 5+2,none⟩=some (.slice B2 z.args.length d2)∧w'.cell? ⟨gb,og+i * 5+3,none⟩=some (.slice D2 z.fs.length e2)∧w'.cell? ⟨gb,og+i * 5+4,none⟩=some (.int .i64 z.rest)))∧w'.cell? ⟨T0+1+1,2,none⟩=some (.slice A9 don.length c9)) (by kernel_rfl) (by kernel_rfl) rfl ⟨⟨l2,x0,x1,x2,x3,x4⟩,o2⟩ (fun K hK hHeld=>?hsx)
    dsimp only[List.take]
    refine held_take (i:=0) (v:=?vx_0) rfl (by kernel_rfl) (by kernel_rfl) (by kernel_rfl) (fun _ _ _ h=>h) (Or.inl ⟨by rfl,?yx_0⟩) hHeld ?rx_0
    case yx_0 =>
     intro w' hSw
     go_simp
     (try with_reducible rfl)
    (try simp only[Act.put,List.setIfInBounds_toArray,List.set_cons_zero,List.set_cons_succ])
    refine held_take (i:=1) (v:=?vx_1) rfl (by kernel_rfl) (by kernel_rfl) (by kernel_rfl) (fun _ _ _ h=>h) (Or.inl ⟨by rfl,?yx_1⟩) hHeld ?rx_1
    case yx_1 =>
     intro w' hSw
     go_simp
     (try with_reducible rfl)
    (try simp only[Act.put,List.setIfInBounds_toArray,List.set_cons_zero,List.set_cons_succ])
    refine held_take (i:=2) (v:=?vx_2) rfl (by kernel_rfl) (by kernel_rfl) (by kernel_rfl) (fun _ _ _ h=>h) (Or.inl ⟨by rfl,?yx_2⟩) hHeld ?rx_2
    case yx_2 =>
     intro w' hSw
     go_simp
     (try with_reducible rfl)
    (try simp only[Act.put,List.setIfInBounds_toArray,List.set_cons_zero,List.set_cons_succ])
    refine held_take (i:=3) (v:=?vx_3) rfl (by kernel_rfl) (by kernel_rfl) (by kernel_rfl) (fun _ _ _ h=>h) (Or.inl ⟨by rfl,?yx_3⟩) hHeld ?rx_3
    case yx_3 =>
     intro w' hSw
     go_simp
     (try with_reducible rfl)
    (try simp only[Act.put,List.setIfInBounds_toArray,List.set_cons_zero,List.set_cons_succ])
    refine held_take (i:=4) (v:=?vx_4) rfl (by kernel_rfl) (by kernel_rfl) (by kernel_rfl) (fun _ _ _ h=>h) (Or.inl ⟨by rfl,?yx_4⟩) hHeld ?rx_4
    case yx_4 =>
     intro w' hSw
     go_simp
     (try with_reducible rfl)
    (try simp only[Act.put,List.setIfInBounds_toArray,List.set_cons_zero,List.set_cons_succ])
    refine held_take (i:=5) (v:=?vx_5) rfl (by kernel_rfl) (by kernel_rfl) (by kernel_rfl) (fun _ _ _ h=>h) (Or.inl ⟨by rfl,?yx_5⟩) hHeld ?rx_5
    case yx_5 =>
     intro w' hSw
     go_simp
     (try with_reducible rfl)
    (try simp only[Act.put,List.setIfInBounds_toArray,List.set_cons_zero,List.set_cons_succ])
    refine held_take (i:=6) (v:=?vx_6) rfl (by kernel_rfl) (by kernel_rfl) (by kernel_rfl) (fun _ _ _ h=>h) (Or.inl ⟨by rfl,?yx_6⟩) hHeld ?rx_6
    case yx_6 =>
     intro w' hSw
     go_simp
     (try with_reducible rfl)
    (try simp only[Act.put,List.setIfInBounds_toArray,List.set_cons_zero,List.set_cons_succ])
    refine held_take (i:=7) (v:=?vx_7) rfl (by kernel_rfl) (by kernel_rfl) (by kernel_rfl) (fun _ _ _ h=>h) (Or.inl ⟨by rfl,?yx_7⟩) hHeld ?rx_7
    case yx_7 =>
     intro w' hSw
     go_simp
     (try with_reducible rfl)
    (try simp only[Act.put,List.setIfInBounds_toArray,List.set_cons_zero,List.set_cons_succ])
    refine held_take (i:=8) (v:=?vx_8) rfl (by kernel_rfl) (by kernel_rfl) (by kernel_rfl) (fun _ _ _ h=>h) (Or.inl ⟨by rfl,?yx_8⟩) hHeld ?rx_8
    case yx_8 =>
     intro w' hSw
     go_simp
     (try with_reducible rfl)
    (try simp only[Act.put,List.setIfInBounds_toArray,List.set_cons_zero,List.set_cons_succ])
    refine held_step (i:=9) rfl (by kernel_rfl) (fun K1 hK1=>?tx_9)
    go_simp
    (with_reducible refine(cS _ ((Fr.refl [] wr).drew |> HF.out.trans)).out.mono ?_)
    rintro e x6 ⟨A',c',B',d',rfl,hT6,f6⟩
    have F6:=(Fr.refl [] wr).drew.trans f6
    have M7:=And.intro (kcJ F6 l2 hsT) (And.intro (kcJ F6 x0 hgw) (And.intro (kcJ F6 x1 hgw) (And.intro (kcJ F6 x2 hgw) (And.intro (kcJ F6 x3 hgw) (kcJ F6 x4 hgw)))))
    have G6:=F6.keep k7 (fun x=>by cases x)
    have hTl:=lt_of_heap G6
    have HAP6:=Lib.hid (HAP.out.keep F6 (fun x hx=>by cases hx))
    obtain⟨⟨u0,u1,u2,u3,u4⟩,z0,z1,z2,z3,z4⟩:=cells5 G6
    have m1:¬ x6.heap.size=T0+1+1:=(by omega)
    have hgw6:=Nat.lt_of_lt_of_le hgw F6.size
    have hsT6:=Nat.lt_of_lt_of_le hsT F6.size
    have hT6':TyAt x6 (fun b=>okW x6 b∧wr.drew.heap.size≤b) P rz _:=hT6
    go_simp
    refine hK1.out _ _ (⟨M7,u2⟩) (fun hHeld=>?ux_9)
    clear hK1 K1
    (try simp only[Act.put,List.setIfInBounds_toArray,List.set_cons_zero,List.set_cons_succ])
    refine held_step (i:=10) rfl (by kernel_rfl) (fun K1 hK1=>?tx_10)
    go_simp
    go_simp
    refine hK1.out _ _ (⟨⟨kcJ ((Fr.refl [] x6).alloc _) M7.1 hsT6,kcJ ((Fr.refl [] x6).alloc _) M7.2.1 hgw6,kcJ ((Fr.refl [] x6).alloc _) M7.2.2.1 hgw6,kcJ ((Fr.refl [] x6).alloc _) M7.2.2.2.1 hgw6,kcJ ((Fr.refl [] x6).alloc _) M7.2.2.2.2.1 hgw6,kcJ ((Fr.refl [] x6).alloc _) M7.2.2.2.2.2 hgw6⟩,(cells5 (heap_old G6 _)).1.2.2.1⟩) (fun hHeld=>?ux_10)
    clear hK1 K1
    (try simp only[Act.put,List.setIfInBounds_toArray,List.set_cons_zero,List.set_cons_succ])
    refine held_step (i:=11) rfl (by kernel_rfl) (fun K1 hK1=>?tx_11)
    refine step_append_fp (by rfl) _ _ 22 (by rfl) 27 i0 _ 5 72 Tryz.underlying22 HI.out HZ0.out HZ1.out HZ2.out rfl (by decide) (.slice A9 don.length c9) don.length (don.flatMap encT) (by rfl) (ownsRow_fr HAP6.out.own ((Fr.refl [] x6).alloc _) (fun _ _ x=>by cases x)) ⟨x6.heap.size,0,none⟩ 1 1 [.int .i64 rz.k,.int .i64 rz.v,.slice A' rz.args.length c',.slice B' rz.fs.length d',.int .i64 rz.rest] (by rfl) rfl (World.news_of_block (heap_new x6 _)) (by simp[Value.oneCell']) (by simp only[maxLen];omega) (by omega) ?_
    intro v9' w9 hown9 hgrow9 hfp9
    obtain⟨g9,cp9,hv9⟩:=own_form hown9
    subst hv9
    have A6:=(Fr.refl [] x6).alloc (.cells #[.int .i64 rz.k,.int .i64 rz.v,.slice A' rz.args.length c',.slice B' rz.fs.length d',.int .i64 rz.rest] 27)
    have M9:=And.intro (kcG hgrow9 (kcJ A6 M7.1 hsT6) (by rw[World.size_alloc];exact Nat.lt_succ_of_lt hsT6) (HOB.out _ (by show T0<T0+3;omega))) (And.intro (kcG hgrow9 (kcJ A6 M7.2.1 hgw6) (by rw[World.size_alloc];exact Nat.lt_succ_of_lt hgw6) (HOB.out _ hgb3)) (And.intro (kcG hgrow9 (kcJ A6 M7.2.2.1 hgw6) (by rw[World.size_alloc];exact Nat.lt_succ_of_lt hgw6) (HOB.out _ hgb3)) (And.intro (kcG hgrow9 (kcJ A6 M7.2.2.2.1 hgw6) (by rw[World.size_alloc];exact Nat.lt_succ_of_lt hgw6) (HOB.out _ hgb3)) (And.intro (kcG hgrow9 (kcJ A6 M7.2.2.2.2.1 hgw6) (by rw[World.size_alloc];exact Nat.lt_succ_of_lt hgw6) (HOB.out _ hgb3)) (kcG hgrow9 (kcJ A6 M7.2.2.2.2.2 hgw6) (by rw[World.size_alloc];exact Nat.lt_succ_of_lt hgw6) (HOB.out _ hgb3))))))
    have G9:=(hgrow9.block (T0+1+1) (lt_of_heap (heap_old G6 _)) (HOB.out _ (by omega))).trans (heap_old G6 _)
    obtain⟨⟨u0,u1,u2,u3,u4⟩,z0,z1,z2,z3,z4⟩:=cells5 G9
    refine hK1.out _ _ (⟨M9,u2⟩) (fun hHeld=>?ux_11)
    clear hK1 K1
    (try simp only[Act.put,List.setIfInBounds_toArray,List.set_cons_zero,List.set_cons_succ])
    refine held_take (i:=12) (v:=?vx_12) rfl (by kernel_rfl) (by kernel_rfl) (by kernel_rfl) (fun _ _ _ h=>h) (Or.inl ⟨by rfl,?yx_12⟩) hHeld ?rx_12
    case yx_12 =>
     intro w' hSw
     go_simp
     (try with_reducible rfl)
    (try simp only[Act.put,List.setIfInBounds_toArray,List.set_cons_zero,List.set_cons_succ])
    refine wpAnyH_done (by kernel_rfl) ?_ _
    refine thenLast_run rfl ?_
    go_simp
    refine hK.out _ _ ?_
    clear hK K
    all_goals
     have hF6:Fr [] W x6:=HF.out.trans F6
     have hO9:=(hgrow9.block T0 (lt_of_heap (heap_old (F6.keep G0.out (fun x=>by cases x)) _)) (HOB.out _ (by omega))).trans (heap_old (F6.keep G0.out (fun x=>by cases x)) _)
     have hR9:=(hgrow9.block (T0+1) (lt_of_heap (heap_old (F6.keep G1.out (fun x=>by cases x)) _)) (HOB.out _ (by omega))).trans (heap_old (F6.keep G1.out (fun x=>by cases x)) _)
     have hs6:T0+3≤(x6.alloc (.cells #[.int .i64 rz.k,.int .i64 rz.v,.slice A' rz.args.length c',.slice B' rz.fs.length d',.int .i64 rz.rest] 27)).heap.size:=by rw[World.size_alloc];omega
     have hTa:=hT6'.keep (w':=x6.alloc (.cells #[.int .i64 rz.k,.int .i64 rz.v,.slice A' rz.args.length c',.slice B' rz.fs.length d',.int .i64 rz.rest] 27)) (ok':=fun b=>(okW (x6.alloc (.cells #[.int .i64 rz.k,.int .i64 rz.v,.slice A' rz.args.length c',.slice B' rz.fs.length d',.int .i64 rz.rest] 27)) b∧T0+3≤b)∧(Value.slice A9 don.length c9).ownBlock≠some b) (fun b hb hlt=>⟨⟨⟨okW_fr ((Fr.refl [] x6).alloc _) hb.1 (fun x=>by cases x) hlt,by have h1:wr.heap.size≤b:=hb.2;omega⟩,fun e=>by have h1:=(HAP.out.lo b e).2;have h2:wr.heap.size≤b:=hb.2;omega⟩,((Fr.refl [] x6).alloc _).block b hlt (fun x=>by cases x),by rw[World.size_alloc];omega⟩)
     have hap:=(HAP6.out.keep ((Fr.refl [] x6).alloc (.cells #[.int .i64 rz.k,.int .i64 rz.v,.slice A' rz.args.length c',.slice B' rz.fs.length d',.int .i64 rz.rest] 27)) (fun x hx=>by cases hx)).app (x:=⟨rz,A',c',B',d'⟩) hTa hs6 hown9 hgrow9 hfp9
     have fT:Fr [T0+1+1] w9 (w9.setCell ⟨T0+1+1,2,none⟩ (.slice (some ⟨g9,0,none⟩) (don.length+1) cp9)):=(Fr.refl [T0+1+1] w9).setCell (p:=⟨T0+1+1,2,none⟩) (.inl (by simp)) _
     have hF9:Fr [] W (w9.setCell ⟨T0+1+1,2,none⟩ (.slice (some ⟨g9,0,none⟩) (don.length+1) cp9)):=((hF6.alloc _).grown hgrow9 (fun k e => .inr (by have:=(HAP.out.lo k e).1;omega))).step fT (fun x hx => .inr (by simp at hx;omega))
     have R0:=Lib.hid (fT.keep hO9 (by simp;omega))
     have R1:=Lib.hid (fT.keep hR9 (by simp))
     have R2:Hid ((w9.setCell ⟨T0+1+1,2,none⟩ (.slice (some ⟨g9,0,none⟩) (don.length+1) cp9)).heap[T0+1+1]?=some (.cells #[.int .i64 k,.int .i64 v9,.slice (some ⟨g9,0,none⟩) (don.length+1) cp9,.slice none 0 0,.int .i64 0] 27 (0,0))):=Lib.hid (by simp[World.setCell,Array.getElem?_modify,G9])
     have R3:=Lib.hid (hap.keep fT (fun x hx=>by simp at hx;omega))
     have R4:=Lib.hid hF9
     have R5':Hid ((don++[(⟨rz,A',c',B',d'⟩:TyM)]).map (·.t)=renTs g (args.take (i+1))):=Lib.hid (by
      rw[List.take_add_one,HX.out,renTs_map,List.map_append,List.map_append,← renTs_map,← HDN.out,Option.toList_some,List.map_cons,List.map_nil,List.map_cons,List.map_nil,HRZ.out])
     clear hO9 hR9 hap fT hF9 hgrow9 hown9 hfp9 M9 G9 M7 G6 hT6 hT6' f6 F6 u0 u1 u2 u3 u4 z0 z1 z2 z3 z4 l0 l1 l2 l3 l4 o0 o1 o2 o3 o4 oz0 oz1 oz2 oz3 oz4 cS hF6 hs6 hTa x0 x1 x2 x3 x4 t7 k7 A6
     go_wp2_with fail
     go_roundw
     case rel=>exact⟨i+1,don++[⟨rz,A',c',B',d'⟩],some ⟨g9,0,none⟩,cp9,by first|rfl|simp|go_num,by omega,R0,R1,by rw[List.length_append,List.length_singleton];exact R2,R5',R3,R4⟩
     case measure=>simp[intOf];omega
   ·have q2:¬ (i:Int)<(args.length:Int):=by omega
    rw[List.take_of_length_le (by omega)] at HDN
    have hdl:don.length=args.length:=by
     have h1:=congrArg List.length HDN.out
     rw[List.length_map,renTs_map,List.length_map] at h1
     exact h1
    have HA:=Lib.hid HAP.out.done
    have HB0:=Lib.hid (AppF.nil wr.heap.size wr P)
    have hs3:T0+3≤wr.heap.size:=by omega
    clear hlt
    go_wp2_with fail
    obtain⟨w2,hw2⟩:∃ w2,w2=wr:=⟨_,rfl⟩
    subst hw2
    go_loopw [9] (fun iv wr=>∃ (i:Nat) (dn:List FdM) (F9:Option Addr) (f9:Nat),iv = .int .i64 i∧i≤fs.length∧Hid (wr.heap[T0]?=some (.cells #[.int .i64 k,.int .i64 v,.slice A args.length c,.slice B fs.length d,.int .i64 rest] 27 (0,0)))∧Hid (wr.heap[T0+1]?=some (.cells #[.int .i64 0,.int .i64 0,.slice none 0 0,.slice none 0 0,.int .i64 0] 27 (0,0)))∧
     Hid (wr.heap[T0+1+1]?=some (.cells #[.int .i64 k,.int .i64 v9,.slice A9 don.length c9,.slice F9 dn.length f9,.int .i64 0] 27 (0,0)))∧Hid (dn.map (·.fd)=renFs g (fs.take i))∧Hid (AppF w2.heap.size P wr F9 f9 dn)∧Hid (Fr [T0+1+1] w2 wr)) (fun iv wr=>fs.length-(intOf iv).toNat)
    case atStart=>exact⟨0,[],none,0,rfl,by omega,G0,G1,G2,Lib.hid rfl,HB0,Lib.hid (Fr.refl _ _)⟩
    case round =>
     clear G0 G1 G2 l0 l1 l2 l3 l4 o0 o1 o2 o3 o4 oz0 oz1 oz2 oz3 oz4 hsO hsT HB0
     obtain⟨i,dn,F9,f9,rfl,hi,G0,G1,G2,HDF,HAF,HF2⟩:=hrel
     have q1:(0:Int)≤(i:Int):=by omega
     have hsO:=lt_of_heap G2.out
     have hsT:=lt_of_heap G0.out
     obtain⟨⟨l0,l1,l2,l3,l4⟩,_⟩:=cells5 G0.out
     obtain⟨⟨o0,o1,o2,o3,o4⟩,oz0,oz1,oz2,oz3,oz4⟩:=cells5 G2.out
     have HFW:=Lib.hid (HF.out.step HF2.out (fun x hx => .inr (by simp at hx;omega)))
     have hs4:=HF2.out.size
     by_cases hlt:i<fs.length
     ·have hx:fs[i]?=some fs[i]:=List.getElem?_eq_getElem hlt
      generalize fs[i]=f at hx
      have q2:(i:Int)<(fs.length:Int):=by omega
      have hfm:=List.mem_of_getElem? hx
      have hlab:=HFS.out.lab f hfm
      obtain⟨gb,og,rfl,hok,hgb,Bf,df,Df,ef,hty,x0,x1,x2,x3,x4,x5,x6,x7⟩:=HFS.out.at hx
      have fw:=HW.out.trans HFW.out
      replace x0:=(fw.cell (p:=⟨gb,og+i * 8,none⟩) hgb (fun x=>by cases x)).trans x0
      replace x1:=(fw.cell (p:=⟨gb,og+i * 8+1,none⟩) hgb (fun x=>by cases x)).trans x1
      replace x2:=(fw.cell (p:=⟨gb,og+i * 8+2,none⟩) hgb (fun x=>by cases x)).trans x2
      replace x3:=(fw.cell (p:=⟨gb,og+i * 8+3,none⟩) hgb (fun x=>by cases x)).trans x3
      replace x4:=(fw.cell (p:=⟨gb,og+i * 8+4,none⟩) hgb (fun x=>by cases x)).trans x4
      replace x5:=(fw.cell (p:=⟨gb,og+i * 8+5,none⟩) hgb (fun x=>by cases x)).trans x5
      replace x6:=(fw.cell (p:=⟨gb,og+i * 8+6,none⟩) hgb (fun x=>by cases x)).trans x6
      replace x7:=(fw.cell (p:=⟨gb,og+i * 8+7,none⟩) hgb (fun x=>by cases x)).trans x7
      have hgw:gb<wr.heap.size:=Nat.lt_of_lt_of_le hgb fw.size
      have hzN:rzT f.t<N:=by have:=rzFs_at hx;have:=HN.out;omega
      have f7:=(Fr.refl [] wr).alloc (.cells #[.string ⟨f.lb.toArray⟩,.int .i64 f.pr,.int .i64 f.p,.int .i64 f.t.k,.int .i64 f.t.v,.slice Bf f.t.args.length df,.slice Df f.t.fs.length ef,.int .i64 f.t.rest] 44)
      have p7:=heap_new wr (.cells #[.string ⟨f.lb.toArray⟩,.int .i64 f.pr,.int .i64 f.p,.int .i64 f.t.k,.int .i64 f.t.v,.slice Bf f.t.args.length df,.slice Df f.t.fs.length ef,.int .i64 f.t.rest] 44)
      have hz7:=World.size_alloc wr (.cells #[.string ⟨f.lb.toArray⟩,.int .i64 f.pr,.int .i64 f.p,.int .i64 f.t.k,.int .i64 f.t.v,.slice Bf f.t.args.length df,.slice Df f.t.fs.length ef,.int .i64 f.t.rest] 44)
      obtain⟨⟨y0,y1,y2,y3,y4,y5,y6,y7⟩,yz0,yz1,yz2,yz3,yz4,yz5,yz6,yz7⟩:=cells8 p7
      have hp7:=lt_of_heap p7
      obtain⟨p9,hp9⟩:∃ p9,p9=if f.pr=2 then g f.p else f.p:=⟨_,rfl⟩
      obtain⟨rt,hrt⟩:∃ rt,rt=ren g f.t:=⟨_,rfl⟩
      have hrf:renF g f=⟨f.lb,f.pr,p9,rt⟩:=by obtain⟨lb,pr,p,t⟩:=f;rw[renF,hp9,hrt]
      have hwf:=wfF_pre (W5.out f hfm)
      have HWF:=Lib.hid hwf
      have HRF:=Lib.hid hrf
      have HP9:=Lib.hid hp9
      have HRT:=Lib.hid hrt
      have HX:=Lib.hid hx
      have HLB:=Lib.hid hlab
      have HTY:=Lib.hid hty
      have F7:=Lib.hid f7
      have P7:=Lib.hid p7
      have HZN:=Lib.hid hzN
      have HL4f:=Lib.hid (HL4.out f hfm)
      clear hx hfm hlab hok hty fw f7 p7 hp9 hrt hrf hwf hzN
      go_upto_if 59 with(fail)
      generalize wr.alloc (.cells #[.string ⟨f.lb.toArray⟩,.int .i64 f.pr,.int .i64 f.p,.int .i64 f.t.k,.int .i64 f.t.v,.slice Bf f.t.args.length df,.slice Df f.t.fs.length ef,.int .i64 f.t.rest] 44)=w7 at *
      generalize hC:wr.heap.size=C at *
      have nC0:¬ C=T0+1+1:=by omega
      have nC1:¬ T0+1+1=C:=by omega
      clear x0 x1 x2 x3 x4 x5 x6 x7
      go_cut [] (fun wx=>Hid (wx.heap[C]?=some (.cells #[.string ⟨f.lb.toArray⟩,.int .i64 f.pr,.int .i64 p9,.int .i64 f.t.k,.int .i64 f.t.v,.slice Bf f.t.args.length df,.slice Df f.t.fs.length ef,.int .i64 f.t.rest] 44 (0,0)))∧Hid (Fr [C] w7 wx))
      case first=>as_aux_lemma =>
       by_cases h2:f.pr=2
       ·have g2:(f.pr==2)=true:=by simp[h2]
        have hp:p9=g f.p:=by rw[HP9.out,if_pos h2]
        have fw7:=HW.out.trans (HFW.out.trans F7.out)
        have cN:=Lib.hid (number_any (HXI.out.fr fw7) (HYI.out.fr fw7) HLM.out hll f.p (cx:=cx) (cy:=cy))
        rw[← HG.out,← hp] at cN
        have fO:=(Fr.refl [C] w7).setCell (p:=⟨C,2,none⟩) (.inl (by simp)) (.int .i64 p9)
        have R2:Hid ((w7.setCell ⟨C,2,none⟩ (.int .i64 p9)).heap[C]?=some (.cells #[.string ⟨f.lb.toArray⟩,.int .i64 f.pr,.int .i64 p9,.int .i64 f.t.k,.int .i64 f.t.v,.slice Bf f.t.args.length df,.slice Df f.t.fs.length ef,.int .i64 f.t.rest] 44 (0,0))):=Lib.hid (by simp[World.setCell,Array.getElem?_modify,P7.out])
        have R3:=Lib.hid fO
        clear h2 hp fO fw7
        go_wp2_with fail
        refine cN.out.mono ?_
        rintro e w6 ⟨rfl,rfl⟩
        go_wp2_with fail
        go_meet
        exact⟨R2,R3⟩
       ·have g2:(f.pr==2)=false:=beq_eq_false_iff_ne.2 h2
        have hp:p9=f.p:=by rw[HP9.out,if_neg h2]
        have R3:=Lib.hid (Fr.refl [C] w7)
        subst hp
        clear h2
        go_wp2_with fail
        go_meet
        exact⟨P7,R3⟩
      case rest =>
       obtain⟨P8,F8⟩:=hcut
       obtain⟨w8,hw8⟩:∃ w8,w8=wc:=⟨_,rfl⟩
       subst hw8
       clear y0 y1 y2 y3 y4 y5 y6 y7 yz0 yz1 yz2 yz3 yz4 yz5 yz6 yz7 hp7 l0 l1 l2 l3 l4 o0 o1 o2 o3 o4 oz0 oz1 oz2 oz3 oz4
       obtain⟨⟨y0,y1,y2,y3,y4,y5,y6,y7⟩,yz0,yz1,yz2,yz3,yz4,yz5,yz6,yz7⟩:=cells8 P8.out
       have hp8:=lt_of_heap P8.out
       have F78:=Lib.hid (F7.out.step F8.out (fun x hx => .inr (by simp at hx;omega)))
       go_upto_if 68 with(fail)
       go_cut [] (fun wx=>∃ (A':Option Addr) (c':Nat) (B':Option Addr) (d':Nat),Hid (wx.heap[C]?=some (.cells #[.string ⟨f.lb.toArray⟩,.int .i64 f.pr,.int .i64 p9,.int .i64 rt.k,.int .i64 rt.v,.slice A' rt.args.length c',.slice B' rt.fs.length d',.int .i64 rt.rest] 44 (0,0)))∧Hid (TyAt wx (fun b=>okW wx b∧C+1≤b) P rt [.int .i64 rt.k,.int .i64 rt.v,.slice A' rt.args.length c',.slice B' rt.fs.length d',.int .i64 rt.rest])∧Hid (Fr [] wr wx))
       case first =>
        by_cases h0:f.pr=0
        ·have g0:(f.pr==0)=true:=by simp[h0]
         have g0':(f.pr != 0)=false:=by simp[h0]
         have hz:f.t = .zero:=by
          rcases HWF.out with⟨_,_,e⟩| ⟨e,_⟩| ⟨e,_⟩
          ·exact e
          ·omega
          ·omega
         have hrz:rt=f.t:=by rw[HRT.out,hz];unfold TyT.zero;rw[ren,renTs,renFs];rfl
         have R1:Hid (TyAt w8 (fun b=>okW w8 b∧C+1≤b) P f.t [.int .i64 f.t.k,.int .i64 f.t.v,.slice Bf f.t.args.length df,.slice Df f.t.fs.length ef,.int .i64 f.t.rest]):=Lib.hid (by rw[hz];exact TyAt.zero2 _ _ _ _ _ _ _)
         subst hrz
         clear h0 hz
         go_wp2_with fail
         go_meet
         exact⟨Bf,df,Df,ef,P8,R1,F78⟩
        ·have g0:(f.pr==0)=false:=beq_eq_false_iff_ne.2 h0
         have g0':(f.pr != 0)=true:=by simp[h0]
         have hwt:WfT G f.t:=by
          rcases HWF.out with⟨e,_⟩| ⟨_,_,e⟩| ⟨_,_,_,e⟩
          ·exact absurd e h0
          ·exact e
          ·exact e
         have cS:=Lib.hid (IH.out w w8 ok P G f.t Bf Df X Y df ef cx cy l m HZN.out (HW.out.trans (HFW.out.trans F78.out)) hwt HL4f.out HLM.out hll HXI.out HYI.out HTY.out)
         rw[← HG.out,← HRT.out] at cS
         clear h0 hwt
         go_wp2_with fail
         refine cS.out.mono ?_
         rintro e w9 ⟨A',c',B',d',rfl,hT9,f9'⟩
         have p9h:=f9'.keep P8.out (fun x=>by cases x)
         obtain⟨⟨b0,b1,b2,b3,b4,b5,b6,b7⟩,bz0,bz1,bz2,bz3,bz4,bz5,bz6,bz7⟩:=cells8 p9h
         have hC9:=lt_of_heap p9h
         have fO:Fr [C] w9 (st5o w9 C 3 (.int .i64 rt.k) (.int .i64 rt.v) (.slice A' rt.args.length c') (.slice B' rt.fs.length d') (.int .i64 rt.rest)):=((((((Fr.refl [C] w9).setCell (p:=⟨C,3,none⟩) (.inl (by simp)) _).setCell (p:=⟨C,3+1,none⟩) (.inl (by simp)) _).setCell (p:=⟨C,3+2,none⟩) (.inl (by simp)) _).setCell (p:=⟨C,3+3,none⟩) (.inl (by simp)) _).setCell (p:=⟨C,3+4,none⟩) (.inl (by simp)) _)
         have R1:Hid ((st5o w9 C 3 (.int .i64 rt.k) (.int .i64 rt.v) (.slice A' rt.args.length c') (.slice B' rt.fs.length d') (.int .i64 rt.rest)).heap[C]?=some (.cells #[.string ⟨f.lb.toArray⟩,.int .i64 f.pr,.int .i64 p9,.int .i64 rt.k,.int .i64 rt.v,.slice A' rt.args.length c',.slice B' rt.fs.length d',.int .i64 rt.rest] 44 (0,0))):=Lib.hid (by simp[st5o,World.setCell,Array.getElem?_modify,p9h])
         have R2:=Lib.hid (hT9.keep (ok':=fun b=>okW (st5o w9 C 3 (.int .i64 rt.k) (.int .i64 rt.v) (.slice A' rt.args.length c') (.slice B' rt.fs.length d') (.int .i64 rt.rest)) b∧C+1≤b) (w':=st5o w9 C 3 (.int .i64 rt.k) (.int .i64 rt.v) (.slice A' rt.args.length c') (.slice B' rt.fs.length d') (.int .i64 rt.rest)) (fun b hb hlt=>by
          have h2:=hb.2
          have hn:b ∉ [C]:=by simp;omega
          exact⟨⟨okW_fr fO hb.1 hn hlt,by omega⟩,fO.block b hlt hn,Nat.lt_of_lt_of_le hlt fO.size⟩))
         have R3:=Lib.hid ((F78.out.trans f9').step fO (fun x hx => .inr (by simp at hx;omega)))
         unfold st5o at R1 R2 R3
         simp only[Nat.reduceAdd] at R1 R2 R3
         clear cS fO f9' hT9 p9h
         go_wp2_with fail
         go_meet
         exact⟨A',c',B',d',R1,R2,R3⟩
       case rest =>
        obtain⟨A',c',B',d',P9,HT9,F89⟩:=hcut
        obtain⟨w10,hw10⟩:∃ w10,w10=wc:=⟨_,rfl⟩
        subst hw10
        clear y0 y1 y2 y3 y4 y5 y6 y7 yz0 yz1 yz2 yz3 yz4 yz5 yz6 yz7 hp8 P8 F8 F78
        obtain⟨⟨y0,y1,y2,y3,y4,y5,y6,y7⟩,_⟩:=cells8 P9.out
        have hp9':=lt_of_heap P9.out
        have G20:=F89.out.keep G2.out (fun x=>by cases x)
        obtain⟨⟨o0,o1,o2,o3,o4⟩,oz0,oz1,oz2,oz3,oz4⟩:=cells5 G20
        have hsO9:=lt_of_heap G20
        have HAF9:=HAF.out.keep F89.out (fun x hx=>by cases hx)
        have hdnl:dn.length≤1099511627776:=by
         have h1:=congrArg List.length HDF.out
         rw[List.length_map,renFs_map,List.length_map,List.length_take] at h1
         omega
        have f11:=(Fr.refl [] w10).alloc (.cells (encF ⟨⟨f.lb,f.pr,p9,rt⟩,A',c',B',d'⟩).toArray 44)
        have g11:=heap_new w10 (.cells (encF ⟨⟨f.lb,f.pr,p9,rt⟩,A',c',B',d'⟩).toArray 44)
        have HAFX:=HAF9.keep f11 (fun x hx=>by cases hx)
        have HOW:=Lib.hid HAFX.own
        have HAX:=Lib.hid HAFX
        have HNS:=Lib.hid (World.news_of_block g11)
        have HOB:Hid (∀ b,b<w2.heap.size→some b≠(Value.slice F9 dn.length f9).ownBlock):=Lib.hid (fun b hb e=>by have:=(HAF.out.lo b e.symm).1;omega)
        have HF11:=Lib.hid (F89.out.trans f11)
        have G211:=Lib.hid (f11.keep G20 (fun x=>by cases x))
        have F11:=Lib.hid f11
        have hz10:=World.size_alloc w10 (.cells (encF ⟨⟨f.lb,f.pr,p9,rt⟩,A',c',B',d'⟩).toArray 44)
        have hTy:TyAt (w10.alloc (.cells (encF ⟨⟨f.lb,f.pr,p9,rt⟩,A',c',B',d'⟩).toArray 44)) (fun b=>(okW (w10.alloc (.cells (encF ⟨⟨f.lb,f.pr,p9,rt⟩,A',c',B',d'⟩).toArray 44)) b∧w2.heap.size≤b)∧(Value.slice F9 dn.length f9).ownBlock≠some b) P rt [.int .i64 rt.k,.int .i64 rt.v,.slice A' rt.args.length c',.slice B' rt.fs.length d',.int .i64 rt.rest]:=HT9.out.keep (fun b hb hlt=>⟨⟨⟨okW_fr f11 hb.1 (fun x=>by cases x) hlt,by have:=hb.2;omega⟩,fun e=>by have h1:=(HAF.out.lo b e).2;have:=hb.2;omega⟩,f11.block b hlt (fun x=>by cases x),by rw[World.size_alloc];omega⟩)
        have HTYX:=Lib.hid hTy
        have hO2:T0+1+1<w2.heap.size:=by omega
        clear G20 HAF9 f11 g11 HAFX hTy
        go_wp2_with (at_builtin;refine wpList_append_fp _ rfl _ _ 23 rfl 44 j0 _ 8 104 Tryz.underlying23 HJ.out HY0.out HY1.out HY2.out rfl (by decide) (.slice F9 dn.length f9) dn.length (dn.flatMap encF) rfl HOW.out ⟨w10.heap.size,0,none⟩ 1 1 (encF ⟨⟨f.lb,f.pr,p9,rt⟩,A',c',B',d'⟩) rfl rfl HNS.out (encF_one _) (by simp only[maxLen];omega) (by omega) ?_;intro v9' w9 hown9 hgrow9 hfp9;obtain⟨F8,f8,rfl⟩:=own_sl hown9;have hU9:=(hgrow9.block (T0+1+1) (lt_of_heap G211.out) (HOB.out _ hO2)).trans G211.out;obtain⟨⟨u0,u1,u2,u3,u4⟩,z0,z1,z2,z3,z4⟩:=cells5 hU9;have hsU9:=lt_of_heap hU9)
        have hsx:w2.heap.size≤(w10.alloc (.cells (encF ⟨⟨f.lb,f.pr,p9,rt⟩,A',c',B',d'⟩).toArray 44)).heap.size:=by omega
        have hap:=HAX.out.app (x:=⟨⟨f.lb,f.pr,p9,rt⟩,A',c',B',d'⟩) HLB.out HTYX.out hsx hown9 hgrow9 hfp9
        have fT:Fr [T0+1+1] w9 (w9.setCell ⟨T0+1+1,3,none⟩ (.slice F8 (dn.length+1) f8)):=(Fr.refl [T0+1+1] w9).setCell (p:=⟨T0+1+1,3,none⟩) (.inl (by simp)) _
        have hO9:=(hgrow9.block T0 (lt_of_heap (HF11.out.keep G0.out (fun x=>by cases x))) (HOB.out _ (by omega))).trans (HF11.out.keep G0.out (fun x=>by cases x))
        have hR9:=(hgrow9.block (T0+1) (lt_of_heap (HF11.out.keep G1.out (fun x=>by cases x))) (HOB.out _ (by omega))).trans (HF11.out.keep G1.out (fun x=>by cases x))
        have R0:=Lib.hid (fT.keep hO9 (by simp;omega))
        have R1:=Lib.hid (fT.keep hR9 (by simp))
        have R2:Hid ((w9.setCell ⟨T0+1+1,3,none⟩ (.slice F8 (dn.length+1) f8)).heap[T0+1+1]?=some (.cells #[.int .i64 k,.int .i64 v9,.slice A9 don.length c9,.slice F8 (dn.length+1) f8,.int .i64 0] 27 (0,0))):=Lib.hid (by simp[World.setCell,Array.getElem?_modify,hU9])
        have R3:=Lib.hid (hap.keep fT (fun x hx=>by simp at hx;omega))
        have R4:=Lib.hid (((HF2.out.trans0 HF11.out).grown hgrow9 (fun k e => .inr (HAF.out.lo k e).1)).trans fT)
        have R5:Hid ((dn++[(⟨⟨f.lb,f.pr,p9,rt⟩,A',c',B',d'⟩:FdM)]).map (·.fd)=renFs g (fs.take (i+1))):=Lib.hid (by
         rw[List.take_add_one,HX.out,renFs_map,List.map_append,List.map_append,← renFs_map,← HDF.out,Option.toList_some,List.map_cons,List.map_nil,List.map_cons,List.map_nil,HRF.out])
        clear hap fT hO9 hR9 hown9 hgrow9 hfp9 hU9 u0 u1 u2 u3 u4 z0 z1 z2 z3 z4
        go_roundw
        case rel=>exact⟨i+1,dn++[⟨⟨f.lb,f.pr,p9,rt⟩,A',c',B',d'⟩],F8,f8,by first|rfl|simp|go_num,by omega,R0,R1,by rw[List.length_append,List.length_singleton];exact R2,R5,R3,R4⟩
        case measure=>simp[intOf];omega
     ·have q2:¬ (i:Int)<(fs.length:Int):=by omega
      rw[List.take_of_length_le (by omega)] at HDF
      have hdn:dn.length=fs.length:=by
       have h1:=congrArg List.length HDF.out
       rw[List.length_map,renFs_map,List.length_map] at h1
       exact h1
      obtain⟨r9,hr9⟩:∃ r9,r9=if rest=0 then 0 else g rest:=⟨_,rfl⟩
      have hZZ:Z = .mk k v9 (don.map (·.t)) (dn.map (·.fd)) r9:=by rw[HZ.out,HDN.out,HDF.out,hr9]
      have HZZ:=Lib.hid hZZ
      have HR9:=Lib.hid hr9
      have HFD:=Lib.hid HAF.out.done
      clear hZZ hr9 hlt hdn hdl
      go_upto_if 86 with(fail)
      go_cut [] (fun wx=>Hid (wx.heap[T0+1]?=some (.cells #[.int .i64 0,.int .i64 0,.slice none 0 0,.slice none 0 0,.int .i64 0] 27 (0,0)))∧Hid (wx.heap[T0+1+1]?=some (.cells #[.int .i64 k,.int .i64 v9,.slice A9 don.length c9,.slice F9 dn.length f9,.int .i64 r9] 27 (0,0)))∧Hid (Fr [T0+1+1] wr wx))
      case first=>as_aux_lemma =>
       by_cases h0:rest=0
       ·have g0:¬ 0<rest:=by omega
        have g1:decide (0<rest)=false:=by simp;omega
        have hr:r9=0:=by rw[HR9.out,if_pos h0]
        have HF00:=Lib.hid (Fr.refl [T0+1+1] wr)
        subst hr
        clear h0
        go_wp2_with fail
        go_meet
        exact⟨G1,G2,HF00⟩
       ·have g0:0<rest:=by omega
        have g1:decide (0<rest)=true:=by simp;omega
        have hr:r9=g rest:=by rw[HR9.out,if_neg h0]
        have cN:=Lib.hid (number_any (HXI.out.fr (HW.out.trans HFW.out)) (HYI.out.fr (HW.out.trans HFW.out)) HLM.out hll rest (cx:=cx) (cy:=cy))
        rw[← HG.out,← hr] at cN
        have fO:=(Fr.refl [T0+1+1] wr).setCell (p:=⟨T0+1+1,4,none⟩) (.inl (by simp)) (.int .i64 r9)
        have R1:=Lib.hid (fO.keep G1.out (by simp))
        have R2:Hid ((wr.setCell ⟨T0+1+1,4,none⟩ (.int .i64 r9)).heap[T0+1+1]?=some (.cells #[.int .i64 k,.int .i64 v9,.slice A9 don.length c9,.slice F9 dn.length f9,.int .i64 r9] 27 (0,0))):=Lib.hid (by simp[World.setCell,Array.getElem?_modify,G2.out])
        have R3:=Lib.hid fO
        clear h0 hr fO
        go_wp2_with fail
        refine cN.out.mono ?_
        rintro e w6 ⟨rfl,rfl⟩
        go_wp2_with fail
        go_meet
        exact⟨R1,R2,R3⟩
      case rest =>
       obtain⟨K1,K2,KF⟩:=hcut
       obtain⟨w10,hw10⟩:∃ w10,w10=wc:=⟨_,rfl⟩
       subst hw10
       clear l0 l1 l2 l3 l4 o0 o1 o2 o3 o4 oz0 oz1 oz2 oz3 oz4 hsO hsT
       obtain⟨⟨o0,o1,o2,o3,o4⟩,_⟩:=cells5 K2.out
       obtain⟨⟨l0,l1,l2,l3,l4⟩,lz0,lz1,lz2,lz3,lz4⟩:=cells5 K1.out
       have hk1:=lt_of_heap K1.out
       have hk2:=lt_of_heap K2.out
       have hfr:=st5_fr w10 (T0+1) (.int .i64 k) (.int .i64 v9) (.slice A9 don.length c9) (.slice F9 dn.length f9) (.int .i64 r9)
       have hh:=st5_heap K1.out (.int .i64 k) (.int .i64 v9) (.slice A9 don.length c9) (.slice F9 dn.length f9) (.int .i64 r9)
       have hRR:=(cells5 hh).1
       unfold st5 at hRR
       have HRR:=Lib.hid hRR
       clear hRR
       have hfull:=(KF.out.mono (L':=[T0+1,T0+1+1]) (fun x hx => .inl (by simp at hx;simp[hx]))).trans (hfr.mono (L':=[T0+1,T0+1+1]) (fun x hx => .inl (by simp at hx;simp[hx])))
       have HARF:Hid (ArAt (st5 w10 (T0+1) (.int .i64 k) (.int .i64 v9) (.slice A9 don.length c9) (.slice F9 dn.length f9) (.int .i64 r9)) (fun b=>okW (st5 w10 (T0+1) (.int .i64 k) (.int .i64 v9) (.slice A9 don.length c9) (.slice F9 dn.length f9) (.int .i64 r9)) b∧T0≤b) P (.slice A9 don.length c9) (don.map (·.t))):=Lib.hid (HA.out.keep (fun b hb hlt=>by
        have hf2:=(HF2.out.mono (L':=[T0+1,T0+1+1]) (fun x hx => .inl (by simp at hx;simp[hx]))).trans hfull
        have h2:=hb.2
        have hn:b ∉ [T0+1,T0+1+1]:=by simp;omega
        exact⟨⟨okW_fr hf2 hb.1 hn hlt,by omega⟩,hf2.block b hlt hn,Nat.lt_of_lt_of_le hlt hf2.size⟩))
       have HFSF:Hid (FsAt (st5 w10 (T0+1) (.int .i64 k) (.int .i64 v9) (.slice A9 don.length c9) (.slice F9 dn.length f9) (.int .i64 r9)) (fun b=>okW (st5 w10 (T0+1) (.int .i64 k) (.int .i64 v9) (.slice A9 don.length c9) (.slice F9 dn.length f9) (.int .i64 r9)) b∧T0≤b) P (.slice F9 dn.length f9) (dn.map (·.fd))):=Lib.hid (HFD.out.keep (fun b hb hlt=>by
        have h2:=hb.2
        have hn:b ∉ [T0+1,T0+1+1]:=by simp;omega
        exact⟨⟨okW_fr hfull hb.1 hn hlt,by omega⟩,hfull.block b hlt hn,Nat.lt_of_lt_of_le hlt hfull.size⟩))
       have HFF:Hid (Fr [] W (st5 w10 (T0+1) (.int .i64 k) (.int .i64 v9) (.slice A9 don.length c9) (.slice F9 dn.length f9) (.int .i64 r9))):=Lib.hid (HFW.out.step hfull (fun x hx => .inr (by simp at hx;omega)))
       unfold st5 at HARF HFSF HFF
       clear hfr hh hfull
       go_wp2_with fail
       obtain⟨r0,r1,r2,r3,r4⟩:=HRR.out
       refine bodyPost_ret (v:=.agg #[.int .i64 k,.int .i64 v9,.slice A9 don.length c9,.slice F9 dn.length f9,.int .i64 r9]) ?_ rfl ?_
       ·simp[results,Tryz.f19,go_sem,r0,r1,r2,r3,r4]
       ·have hz:=HZZ.out
        clear HZZ HZ
        cases hz
        refine⟨A9,c9,F9,f9,?_,?_,HFF.out⟩
        ·simp only[List.length_map]
        ·refine TyAt.iff.2 ⟨_,_,rfl,?_,?_⟩
         ·have:=HARF.out;simpa only[List.length_map] using this
         ·have:=HFSF.out;simpa only[List.length_map] using this
theorem rename_all:∀ N,RNC N
 | 0=>by intro _ _ _ _ _ _ _ _ _ _ _ _ _ _ _ _ h;exact absurd h (Nat.not_lt_zero _)
 | N+1=>rename_step N (rename_all N)
end
section
variable [LoB]
attribute [local instance] Ex.no
theorem SolW.beside{w w':World}{P:List UInt8→Prop}{Q:Nat}{M0 M1 M2:Option Nat}{G:Ctx}{R:Raw}{s:Sub}{m:Int}{ta tb:TyT}(h:SolW w P Q M0 M1 M2 G R s m ta tb){L:List Nat}(hf:Fr L w w')(hL:∀ x ∈ L,¬ okW w x)(hd:∀ x ∈ solL Q M0 M1 M2,x ∉ L):SolW w' P Q M0 M1 M2 G R s m ta tb:=h.most (h.at_.frL hf hL hd)
end
section
variable [LoB]
attribute [local instance] Ex.no
def upTo(n:Nat):List Int:=(List.range n).map (fun i:Nat=>1+(i:Int))
theorem upTo_succ(n:Nat):upTo (n+1)=upTo n++[1+(n:Int)]:=by unfold upTo;rw[List.range_succ,List.map_append];rfl
theorem upTo_len(n:Nat):(upTo n).length=n:=by simp[upTo]
theorem canon_any{w:World}{ok:Nat→Prop}{P:List UInt8→Prop}{G:Ctx}{t:TyT}{A B:Option Addr}{c d:Nat}(ht:TyAt w ok P t [.int .i64 t.k,.int .i64 t.v,.slice A t.args.length c,.slice B t.fs.length d,.int .i64 t.rest])(wt:WfT G t)(hL:LimT t)(hs:szT t≤5000):
  Calls Tryz.prog 16 #[.agg #[.int .i64 t.k,.int .i64 t.v,.slice A t.args.length c,.slice B t.fs.length d,.int .i64 t.rest]] w fun e w'=>∃ (A':Option Addr) (c':Nat) (B':Option Addr) (d':Nat),e = .returned (.agg #[.int .i64 (canon t).k,.int .i64 (canon t).v,.slice A' (canon t).args.length c',.slice B' (canon t).fs.length d',.int .i64 (canon t).rest])∧
   TyAt w' (fun b=>okW w' b∧w.heap.size≤b) P (canon t) [.int .i64 (canon t).k,.int .i64 (canon t).v,.slice A' (canon t).args.length c',.slice B' (canon t).fs.length d',.int .i64 (canon t).rest]∧Fr [] w w':=by
 have f0:=((Fr.refl [] w).alloc (.cells #[.int .i64 t.k,.int .i64 t.v,.slice A t.args.length c,.slice B t.fs.length d,.int .i64 t.rest] 27)).alloc (.cells #[.int .i64 0,.int .i64 0,.slice none 0 0,.slice none 0 0,.int .i64 0] 27)
 have g0:=heap_old (heap_new w (.cells #[.int .i64 t.k,.int .i64 t.v,.slice A t.args.length c,.slice B t.fs.length d,.int .i64 t.rest] 27)) (.cells #[.int .i64 0,.int .i64 0,.slice none 0 0,.slice none 0 0,.int .i64 0] 27)
 have g1:=heap_new (w.alloc (.cells #[.int .i64 t.k,.int .i64 t.v,.slice A t.args.length c,.slice B t.fs.length d,.int .i64 t.rest] 27)) (.cells #[.int .i64 0,.int .i64 0,.slice none 0 0,.slice none 0 0,.int .i64 0] 27)
 rw[World.size_alloc] at g1
 obtain⟨⟨l0,l1,l2,l3,l4⟩,_⟩:=cells5 g0
 have hs0:=lt_of_heap g0
 have ht2:TyAt ((w.alloc (.cells #[.int .i64 t.k,.int .i64 t.v,.slice A t.args.length c,.slice B t.fs.length d,.int .i64 t.rest] 27)).alloc (.cells #[.int .i64 0,.int .i64 0,.slice none 0 0,.slice none 0 0,.int .i64 0] 27)) (· <((w.alloc (.cells #[.int .i64 t.k,.int .i64 t.v,.slice A t.args.length c,.slice B t.fs.length d,.int .i64 t.rest] 27)).alloc (.cells #[.int .i64 0,.int .i64 0,.slice none 0 0,.slice none 0 0,.int .i64 0] 27)).heap.size) P t [.int .i64 t.k,.int .i64 t.v,.slice A t.args.length c,.slice B t.fs.length d,.int .i64 t.rest]:=ht.keep (fun b _ hlt=>⟨Nat.lt_of_lt_of_le hlt f0.size,f0.block b hlt (fun x=>by cases x),Nat.lt_of_lt_of_le hlt f0.size⟩)
 have cV:=Lib.hid (rvars_all _ ((w.alloc (.cells #[.int .i64 t.k,.int .i64 t.v,.slice A t.args.length c,.slice B t.fs.length d,.int .i64 t.rest] 27)).alloc (.cells #[.int .i64 0,.int .i64 0,.slice none 0 0,.slice none 0 0,.int .i64 0] 27)) ((w.alloc (.cells #[.int .i64 t.k,.int .i64 t.v,.slice A t.args.length c,.slice B t.fs.length d,.int .i64 t.rest] 27)).alloc (.cells #[.int .i64 0,.int .i64 0,.slice none 0 0,.slice none 0 0,.int .i64 0] 27)) _ P t A B none c d 0 [] (Nat.lt_succ_self _) (Nat.le_refl _) (Below.refl _ _) ht2 (AppI.nil _ _) (by simp;omega))
 have hln:=gvT_len t []
 obtain⟨l,hl⟩:∃ l,l=gvT t []:=⟨_,rfl⟩
 rw[← hl] at cV hln
 have hl2:l=varsT t []:=hl.trans (gv_vars wt)
 have hll:l.length≤100000:=by simp at hln;omega
 obtain⟨Z,hZ⟩:∃ Z,Z=canon t:=⟨_,rfl⟩
 rw[← hZ]
 have hZ2:ren (numL l (upTo l.length)) t=Z:=by rw[hZ,hl2];exact canon_num
 obtain⟨T0,hT0⟩:∃ T0,T0=w.heap.size:=⟨_,rfl⟩
 rw[← hT0]
 obtain⟨i1,hi,hz0,hz1,hz2⟩:=info_parts infoInt
 have HI:=Lib.hid hi
 have HZ0:=Lib.hid hz0
 have HZ1:=Lib.hid hz1
 have HZ2:=Lib.hid hz2
 have HT0:=Lib.hid hT0
 have HZ:=Lib.hid hZ2
 have HF0:=Lib.hid f0
 have HG0:=Lib.hid g0
 have HG1:=Lib.hid g1
 have HT:=Lib.hid ht
 have HWT:=Lib.hid wt
 have HLT:=Lib.hid hL
 clear hl hl2 hZ hZ2 hT0 hi hz0 hz1 hz2 f0 g0 g1 ht wt hL ht2 hln hs
 go_enter Tryz.func16,Tryz.ntmps16
 go_wp2_with fail
 generalize (w.alloc (.cells #[.int .i64 t.k,.int .i64 t.v,.slice A t.args.length c,.slice B t.fs.length d,.int .i64 t.rest] 27)).alloc (.cells #[.int .i64 0,.int .i64 0,.slice none 0 0,.slice none 0 0,.int .i64 0] 27)=x at *
 refine cV.out.mono ?_
 rintro e w6 ⟨X,cx,rfl,hst⟩
 have hTT:w.heap.size=T0:=HT0.out.symm
 have f6:Fr [] x w6:=hst.fr.mono (fun x hx=>by have:=oB_mem.1 hx;cases this)
 have HI6:=Lib.hid hst.app.ints
 have HF6:=Lib.hid (HF0.out.trans f6)
 have j0:=f6.keep HG0.out (fun x=>by cases x)
 have j1:=f6.keep HG1.out (fun x=>by cases x)
 rw[hTT] at j0 j1
 have HJ0:=Lib.hid j0
 have HJ1:=Lib.hid j1
 clear l0 l1 l2 l3 l4 hs0 cV hst f6 j0 j1
 rw[hTT]
 have HA0:Hid (AppI w6.heap.size (w6.alloc (.cells #[] 3)) (some ⟨w6.heap.size,0,none⟩) 0 (upTo 0)):=Lib.hid ⟨World.ownsRow_made (base:=0) w6 #[] 0 (Nat.zero_le _) (Nat.zero_le _) rfl,fun g e=>by
  have e:some w6.heap.size=some g:=e
  cases e
  exact⟨Nat.le_refl _,by rw[World.size_alloc];omega⟩⟩
 have HFA:=Lib.hid ((Fr.refl [] w6).alloc (.cells #[] 3))
 go_wp2_with fail
 go_loopw [4,5] (fun tv iv wr=>∃ (i:Nat) (Y:Option Addr) (cy:Nat),tv = .slice Y i cy∧iv = .int .i64 i∧i≤l.length∧Hid (AppI w6.heap.size wr Y cy (upTo i))∧Hid (Fr [] w6 wr)) (fun tv iv wr=>l.length-(intOf iv).toNat)
 case atStart=>exact⟨0,_,0,rfl,rfl,by omega,HA0,HFA⟩
 case round =>
  obtain⟨i,Y,cy,rfl,rfl,hi,HA,HF⟩:=hrel
  have q1:(0:Int)≤(i:Int):=by omega
  have hul:=upTo_len i
  by_cases hlt:i<l.length
  ·have q2:(i:Int)<(l.length:Int):=by omega
   have f8:=(Fr.refl [] wr).alloc (.cells #[.int .i64 ((i:Int)+1)] 3)
   have g8:=heap_new wr (.cells #[.int .i64 ((i:Int)+1)] 3)
   have hA8:=HA.out.keep f8 (fun x hx=>by cases hx)
   have how:=hA8.own
   rw[hul] at how
   have HOW:=Lib.hid how
   have HA8:=Lib.hid hA8
   have HNS:=Lib.hid (World.news_of_block g8)
   have HF8:=Lib.hid (HF.out.trans f8)
   have HUL:=Lib.hid hul
   clear f8 g8 hA8 how hul
   go_wp2_with (at_builtin;refine wpList_append_fp _ rfl _ _ 36 rfl 3 i1 _ 1 8 Tryz.underlying36 HI.out HZ0.out HZ1.out HZ2.out rfl (by decide) (.slice Y i cy) i ((upTo i).map encI) rfl HOW.out ⟨wr.heap.size,0,none⟩ 1 1 [.int .i64 ((i:Int)+1)] rfl rfl HNS.out (by simp[Value.oneCell']) (by simp only[maxLen];omega) (by omega) ?_;intro v9 w9 hown9 hgrow9 hfp9;obtain⟨Y9,c9,rfl⟩:=own_sl hown9)
   have hs9:=HF8.out.size
   have R1:Hid (AppI w6.heap.size w9 Y9 c9 (upTo (i+1))):=Lib.hid (by
    rw[upTo_succ]
    refine HA8.out.app hs9 ?_ ?_
    ·rw[HUL.out,show encI (1+(i:Int))= .int .i64 ((i:Int)+1) by unfold encI;rw[Int.add_comm]];exact hown9
    ·rw[HUL.out];exact hfp9)
   have R2:=Lib.hid (HF8.out.grown hgrow9 (fun k e => .inr ((HA.out.lo k (by rw[HUL.out];exact e)).1)))
   clear hown9 hgrow9 hfp9
   go_roundw
   case rel=>exact⟨i+1,Y9,c9,by first|rfl|simp,by first|rfl|simp|go_num,by omega,R1,R2⟩
   case measure=>simp[intOf];omega
  ·have q2:¬ (i:Int)<(l.length:Int):=by omega
   have hie:i=l.length:=by omega
   subst hie
   have hFw:=HF6.out.trans HF.out
   have k0:=HF.out.keep HJ0.out (fun x=>by cases x)
   have k1:=HF.out.keep HJ1.out (fun x=>by cases x)
   have htr:TyAt wr (· < wr.heap.size) P t [.int .i64 t.k,.int .i64 t.v,.slice A t.args.length c,.slice B t.fs.length d,.int .i64 t.rest]:=HT.out.keep (fun b _ hlt=>⟨Nat.lt_of_lt_of_le hlt hFw.size,hFw.block b hlt (fun x=>by cases x),Nat.lt_of_lt_of_le hlt hFw.size⟩)
   have cR:=Lib.hid (rename_all _ wr wr _ P G t A B X Y c d cx cy l (upTo l.length) (Nat.lt_succ_self _) (Fr.refl [] wr) HWT.out HLT.out (upTo_len _).symm (by omega) (HI6.out.fr HF.out) HA.out.ints htr)
   rw[HZ.out,hul] at cR
   obtain⟨⟨l0,l1,l2,l3,l4⟩,_⟩:=cells5 k0
   have hs0:=lt_of_heap k0
   have hsw:=hFw.size
   have HK1:=Lib.hid k1
   have HFw:=Lib.hid hFw
   clear htr k0 k1 hFw hul
   go_wp2_with fail
   refine cR.out.mono ?_
   rintro e w9 ⟨A',c',B',d',rfl,hty,f9⟩
   have j1:=heap_old (f9.keep HK1.out (fun x=>by cases x)) (.cells #[.int .i64 Z.k,.int .i64 Z.v,.slice A' Z.args.length c',.slice B' Z.fs.length d',.int .i64 Z.rest] 27)
   have j2:=heap_new w9 (.cells #[.int .i64 Z.k,.int .i64 Z.v,.slice A' Z.args.length c',.slice B' Z.fs.length d',.int .i64 Z.rest] 27)
   have fa:=(Fr.refl [] w9).alloc (.cells #[.int .i64 Z.k,.int .i64 Z.v,.slice A' Z.args.length c',.slice B' Z.fs.length d',.int .i64 Z.rest] 27)
   have hfr:=st5_fr (w9.alloc (.cells #[.int .i64 Z.k,.int .i64 Z.v,.slice A' Z.args.length c',.slice B' Z.fs.length d',.int .i64 Z.rest] 27)) (T0+1) (.int .i64 Z.k) (.int .i64 Z.v) (.slice A' Z.args.length c') (.slice B' Z.fs.length d') (.int .i64 Z.rest)
   have hh:=st5_heap j1 (.int .i64 Z.k) (.int .i64 Z.v) (.slice A' Z.args.length c') (.slice B' Z.fs.length d') (.int .i64 Z.rest)
   have hRR:=(cells5 hh).1
   have hs9:=f9.size
   have hk1:=lt_of_heap HK1.out
   have HTY:Hid (TyAt (st5 (w9.alloc (.cells #[.int .i64 Z.k,.int .i64 Z.v,.slice A' Z.args.length c',.slice B' Z.fs.length d',.int .i64 Z.rest] 27)) (T0+1) (.int .i64 Z.k) (.int .i64 Z.v) (.slice A' Z.args.length c') (.slice B' Z.fs.length d') (.int .i64 Z.rest)) (fun b=>okW (st5 (w9.alloc (.cells #[.int .i64 Z.k,.int .i64 Z.v,.slice A' Z.args.length c',.slice B' Z.fs.length d',.int .i64 Z.rest] 27)) (T0+1) (.int .i64 Z.k) (.int .i64 Z.v) (.slice A' Z.args.length c') (.slice B' Z.fs.length d') (.int .i64 Z.rest)) b∧T0≤b) P Z [.int .i64 Z.k,.int .i64 Z.v,.slice A' Z.args.length c',.slice B' Z.fs.length d',.int .i64 Z.rest]):=Lib.hid (hty.keep (fun b hb hlt=>by
    have h2:=hb.2
    have hn:b ∉ [T0+1]:=by simp;omega
    have hok:=okW_fr fa hb.1 (fun x=>by cases x) hlt
    have hlt2:=Nat.lt_of_lt_of_le hlt fa.size
    exact⟨⟨okW_fr hfr hok hn hlt2,by omega⟩,(hfr.block b hlt2 hn).trans (fa.block b hlt (fun x=>by cases x)),Nat.lt_of_lt_of_le hlt2 hfr.size⟩))
   have HFF:Hid (Fr [] w (st5 (w9.alloc (.cells #[.int .i64 Z.k,.int .i64 Z.v,.slice A' Z.args.length c',.slice B' Z.fs.length d',.int .i64 Z.rest] 27)) (T0+1) (.int .i64 Z.k) (.int .i64 Z.v) (.slice A' Z.args.length c') (.slice B' Z.fs.length d') (.int .i64 Z.rest))):=Lib.hid (((HFw.out.trans f9).trans fa).step hfr (fun x hx => .inr (by simp at hx;omega)))
   unfold st5 at hRR HTY HFF
   have HRR:=Lib.hid hRR
   obtain⟨⟨k0,k1,k2,k3,k4⟩,kz0,kz1,kz2,kz3,kz4⟩:=cells5 j1
   obtain⟨⟨u0,u1,u2,u3,u4⟩,_⟩:=cells5 j2
   have hj1:=lt_of_heap j1
   have hj2:=lt_of_heap j2
   have n1:¬ T0+1=w9.heap.size:=by omega
   have n2:¬ w9.heap.size=T0+1:=by omega
   clear hRR hh hfr fa j1 j2 hty f9 cR
   go_wp2_with fail
   obtain⟨r0,r1,r2,r3,r4⟩:=HRR.out
   refine bodyPost_ret (v:=.agg #[.int .i64 Z.k,.int .i64 Z.v,.slice A' Z.args.length c',.slice B' Z.fs.length d',.int .i64 Z.rest]) ?_ rfl ?_
   ·simp[results,Tryz.f16,go_sem,r0,r1,r2,r3,r4]
   ·exact⟨A',c',B',d',rfl,HTY.out,HFF.out⟩
end
end
mutual
theorem seen_max:∀ (t:TyT)(m n:Int),seenT t (max m n)=max m (seenT t n)
 | .mk k v args fs rest,m,n=>by
  rw[seenT,seenT]
  have e:max (max (max m n) v) rest=max m (max (max n v) rest):=by omega
  rw[e,seenTs_max,seenFs_max]
theorem seenTs_max:∀ (t:List TyT)(m n:Int),seenTs t (max m n)=max m (seenTs t n)
 | [],_,_=>rfl
 | x::l,m,n=>by rw[seenTs,seenTs,seen_max,seenTs_max]
theorem seenFs_max:∀ (t:List Fd)(m n:Int),seenFs t (max m n)=max m (seenFs t n)
 | [],_,_=>rfl
 | x::l,m,n=>by rw[seenFs,seenFs,seenF_max,seenFs_max]
theorem seenF_max:∀ (t:Fd)(m n:Int),seenF t (max m n)=max m (seenF t n)
 | ⟨lb,pr,p,t⟩,m,n=>by
  rw[seenF,seenF]
  have e:max (max m n) p=max m (max n p):=by omega
  rw[e,seen_max]
end
theorem unify_small{G:Ctx}{A A':Ab}{a b:TyT}{m:Int}{n:Nat}(hA:AOk G ⟨A.s,m,a,b⟩)(hr:Unify n A a b m=some (0,A')):szT (ap A'.s a)≤512∧szT (ap A'.s b)≤512:=by
 obtain⟨G',ad,e⟩:=Unify_same hA hr
 have hg:A'.grown=0:=by
  unfold Unify at hr
  dsimp only at hr
  by_cases c:Ab.grown ⟨A.s,m,a,b⟩≠0
  ·rw[if_pos c] at hr;exact absurd (Prod.mk.inj (Option.some.inj hr)).1 c
  ·rw[if_neg c] at hr
   exact(gr_all n).1 _ _ _ _ hr (Decidable.not_not.1 c) rfl
 have ea:A'.a=a:=ad.ea
 have eb:A'.b=b:=ad.eb
 unfold Ab.grown at hg
 rw[ea,eb] at hg
 split at hg
 ·cases hg
 ·omega
mutual
theorem lim_ren(g:Int→Int):∀ {t:TyT},LimT t→LimT (ren g t)
 | .mk k v args fs rest,h=>by
  rw[LimT] at h
  rw[ren,LimT]
  exact⟨by rw[renTs_map,List.length_map];exact h.1,by rw[renFs_map,List.length_map];exact h.2.1,limTs_ren g h.2.2.1,limFs_ren g h.2.2.2⟩
theorem limTs_ren(g:Int→Int):∀ {t:List TyT},LimTs t→LimTs (renTs g t)
 | [],_=>trivial
 | x::l,h=>by rw[LimTs] at h;rw[renTs,LimTs];exact⟨lim_ren g h.1,limTs_ren g h.2⟩
theorem limFs_ren(g:Int→Int):∀ {t:List Fd},LimFs t→LimFs (renFs g t)
 | [],_=>trivial
 | x::l,h=>by rw[LimFs] at h;rw[renFs,LimFs];exact⟨limF_ren g h.1,limFs_ren g h.2⟩
theorem limF_ren(g:Int→Int):∀ {t:Fd},LimF t→LimF (renF g t)
 | ⟨lb,pr,p,t⟩,h=>by rw[LimF] at h;rw[renF,LimF];exact lim_ren g h
end
theorem lim_canon{t:TyT}(h:LimT t):LimT (canon t):=by rw[← canon_num];exact lim_ren _ h
section
attribute [local go_sem ↓] Go.wp_at_zero Go.wp_at_succ
section
variable [LoB]
attribute [local instance] Ex.no
theorem seen_in{t:TyT}{m n:Int}(h:seenT t n≤m):seenT t m=m:=by
 have h1:=seen_le t n
 have e:=seen_max t m n
 rw[show max m n=m by omega,show max m (seenT t n)=m by omega] at e
 exact e
theorem sol_not{w:World}{P:List UInt8→Prop}{Q:Nat}{M0 M1 M2:Option Nat}{G:Ctx}{R:Raw}{s:Sub}{m:Int}{ta tb:TyT}(h:SolW w P Q M0 M1 M2 G R s m ta tb):∀ x ∈ solL Q M0 M1 M2,¬ okW w x:=fun x hx=>(h.at_.not_ok x hx).1
theorem sol_notQ{w:World}{P:List UInt8→Prop}{Q:Nat}{M0 M1 M2:Option Nat}{G:Ctx}{R:Raw}{s:Sub}{m:Int}{ta tb:TyT}(h:SolW w P Q M0 M1 M2 G R s m ta tb):∀ x ∈ [Q],¬ okW w x:=fun x hx=>by
 simp at hx;rw[hx];exact(h.at_.not_ok Q (by simp[solL])).1
end
end
section
variable [LoB]
attribute [local instance] Ex.no
structure RP3 (a b x y:TyT):Prop where
 sa:szT a≤2000
 sb:szT b≤2000
 sx:szT x≤2000
 sy:szT y≤2000
 va:∀ v ∈ gvT a [],v≤1099511627776
 vb:∀ v ∈ gvT b [],v≤1099511627776
 vx:∀ v ∈ gvT x [],v≤1099511627776
 vy:∀ v ∈ gvT y [],v≤1099511627776
 may:MayG (fnT (fnT a b) (fnT x y))
theorem vt_fn{P:Int→Prop}{a b:TyT}(ha:VT P a)(hb:VT P b):VT P (fnT a b):=by
 unfold fnT
 rw[VT,VTs,VTs,VTs,VFs]
 exact⟨fun c=>(by cases c),⟨ha,hb,trivial⟩,trivial,fun c=>absurd rfl c⟩
theorem seen_fn(a b:TyT){m:Int}(h:0≤m):seenT (fnT a b) m=seenT b (seenT a m):=by
 unfold fnT
 rw[seenT,seenTs,seenTs,seenTs,seenFs,show max (max m 0) 0=m by omega]
theorem sz_fn(a b:TyT):szT (fnT a b)=1+szT a+szT b:=by unfold fnT;rw[szT,szTs,szTs,szTs,szFs];omega
theorem lab_fnl{a b:TyT}:∀ x ∈ labT a,x ∈ labT (fnT a b):=fun x h=>by
 unfold fnT;rw[labT,labTs];exact List.mem_append_left _ (List.mem_append_left _ h)
theorem lab_fnr{a b:TyT}:∀ x ∈ labT b,x ∈ labT (fnT a b):=fun x h=>by
 unfold fnT;rw[labT,labTs,labTs];exact List.mem_append_left _ (List.mem_append_right _ (List.mem_append_left _ h))
theorem mayG_parts{a b x y:TyT}(h:RP3 a b x y):
  ∃ G:Ctx,Pos G∧Rise G∧WfT G a∧WfT G b∧WfT G x∧WfT G y∧AOk G ⟨.one,seenT (fnT x y) (seenT (fnT a b) 0),fnT a b,fnT x y⟩∧seenT (fnT x y) (seenT (fnT a b) 0)≤1099511627776:=by
 obtain⟨G,hp,hr,hw,hs⟩:=h.may
 obtain⟨wab,wxy⟩:=wf_fnT.1 hw
 obtain⟨wa,wb⟩:=wf_fnT.1 wab
 obtain⟨wx,wy⟩:=wf_fnT.1 wxy
 have va:VT (·≤1099511627776) a:=vt_mono (fun u hu=>h.va u hu) (by rw[gv_vars wa];exact vars_in a [])
 have vb:VT (·≤1099511627776) b:=vt_mono (fun u hu=>h.vb u hu) (by rw[gv_vars wb];exact vars_in b [])
 have vx:VT (·≤1099511627776) x:=vt_mono (fun u hu=>h.vx u hu) (by rw[gv_vars wx];exact vars_in x [])
 have vy:VT (·≤1099511627776) y:=vt_mono (fun u hu=>h.vy u hu) (by rw[gv_vars wy];exact vars_in y [])
 have hbd:seenT (fnT x y) (seenT (fnT a b) 0)≤1099511627776:=seen_bd (by decide) wxy (vt_fn vx vy) (seen_bd (by decide) wab (vt_fn va vb) (by decide))
 have h0:0≤seenT (fnT x y) (seenT (fnT a b) 0):=Int.le_trans (seen_le (fnT a b) 0) (seen_le (fnT x y) _)
 refine⟨G,hp,hr,wa,wb,wx,wy,aok_one hp hr wab wxy (fun v hv=>?_) h0,hbd⟩
 refine Classical.byContradiction (fun c=>?_)
 have:=hs (·≤seenT (fnT x y) (seenT (fnT a b) 0)) (vt_fn (vt_mono (fun u hu=>Int.le_trans hu (seen_le (fnT x y) _)) (seen_vt (fnT a b) 0)) (seen_vt (fnT x y) _)) v c
 omega
theorem parts_seen{a b x y:TyT}{m:Int}(h:seenT (fnT x y) (seenT (fnT a b) 0)≤m):seenT a m=m∧seenT b m=m∧seenT x m=m∧seenT y m=m:=by
 have e1:=seen_fn a b (m:=0) (by decide)
 have p1:=seen_le (fnT a b) 0
 have e2:=seen_fn x y (m:=seenT (fnT a b) 0) p1
 rw[e2,e1] at h
 have h1:=seen_le b (seenT a 0)
 have h2:=seen_le x (seenT b (seenT a 0))
 have h3:=seen_le y (seenT x (seenT b (seenT a 0)))
 exact⟨seen_in (n:=0) (by omega),seen_in (n:=seenT a 0) (by omega),seen_in (n:=seenT b (seenT a 0)) (by omega),seen_in h⟩
theorem lfun2{w:World}{P:List UInt8→Prop}{a b t:TyT}(ht:t=fnT a b){A B A' B':Option Addr}{c d c' d':Nat}(ha:TyAt w (okW w) P a [.int .i64 a.k,.int .i64 a.v,.slice A a.args.length c,.slice B a.fs.length d,.int .i64 a.rest])(hb:TyAt w (okW w) P b [.int .i64 b.k,.int .i64 b.v,.slice A' b.args.length c',.slice B' b.fs.length d',.int .i64 b.rest]):
  Calls Tryz.prog 18 #[.agg #[.int .i64 a.k,.int .i64 a.v,.slice A a.args.length c,.slice B a.fs.length d,.int .i64 a.rest],.agg #[.int .i64 b.k,.int .i64 b.v,.slice A' b.args.length c',.slice B' b.fs.length d',.int .i64 b.rest]] w fun e w'=>∃ X:Option Addr,e = .returned (.agg #[.int .i64 t.k,.int .i64 t.v,.slice X t.args.length 2,.slice none t.fs.length 0,.int .i64 t.rest])∧TyAt w' (okW w') P t [.int .i64 t.k,.int .i64 t.v,.slice X t.args.length 2,.slice none t.fs.length 0,.int .i64 t.rest]∧Fr [] w w':=by
 subst ht
 refine(lfun_any ha hb).mono ?_
 rintro e w' ⟨X,rfl,hty,hf⟩
 exact⟨X,rfl,hty.keep (fun b hb hlt=>⟨hb.elim (fun h=>okW_fr hf h.1 (fun x=>by cases x) h.2) (fun h=>h.2),rfl,hlt⟩),hf⟩
def Box4(w:World)(T:Nat)(o0 o1 o2 o3:Obj):Prop:=w.heap[T]?=some o0∧w.heap[T+1]?=some o1∧w.heap[T+1+1]?=some o2∧w.heap[T+1+1+1]?=some o3
theorem Box4.fr{w w':World}{T:Nat}{o0 o1 o2 o3:Obj}(h:Box4 w T o0 o1 o2 o3){L:List Nat}(hf:Fr L w w')(hL:∀ x ∈ L,T+4≤x):Box4 w' T o0 o1 o2 o3 :=
 ⟨hf.keep h.1 (fun x=>by have:=hL _ x;omega),hf.keep h.2.1 (fun x=>by have:=hL _ x;omega),hf.keep h.2.2.1 (fun x=>by have:=hL _ x;omega),hf.keep h.2.2.2 (fun x=>by have:=hL _ x;omega)⟩
theorem Box4.fr0{w w':World}{T:Nat}{o0 o1 o2 o3:Obj}(h:Box4 w T o0 o1 o2 o3)(hf:Fr [] w w'):Box4 w' T o0 o1 o2 o3:=h.fr hf (fun x hx=>by cases hx)
theorem Box4.made(w:World)(o0 o1 o2 o3:Obj):Box4 ((((w.alloc o0).alloc o1).alloc o2).alloc o3) w.heap.size o0 o1 o2 o3:=by
 refine⟨heap_old (heap_old (heap_old (heap_new w o0) _) _) _,?_,?_,?_⟩
 ·have:=heap_old (heap_old (heap_new (w.alloc o0) o1) o2) o3
  rwa [World.size_alloc] at this
 ·have:=heap_old (heap_new ((w.alloc o0).alloc o1) o2) o3
  rwa [World.size_alloc,World.size_alloc] at this
 ·have:=heap_new (((w.alloc o0).alloc o1).alloc o2) o3
  rwa [World.size_alloc,World.size_alloc,World.size_alloc] at this
theorem Box4.lt{w:World}{T:Nat}{o0 o1 o2 o3:Obj}(h:Box4 w T o0 o1 o2 o3):T+4≤w.heap.size:=lt_of_heap h.2.2.2
end
end Go.Proofs.YtoimdiballicnaaGreatDoor
