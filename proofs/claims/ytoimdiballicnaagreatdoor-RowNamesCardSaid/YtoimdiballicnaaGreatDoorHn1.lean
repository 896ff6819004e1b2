/- A part of the proof: Uc, Ud, Uk, Ul, Um, Un, Uo, Up, Uq, Ur, Us, Ut, Uu, Uv, Uw, Ux, Ja, Jf, Jd, Kn. -/
import Derived.Deep.AppendLies
import Derived.Deep.RegionHeld3
import Derived.Deep.DeepCutAuto
import Derived.Test.YtoimdiballicnaaGreatDoorHb11
namespace Go.Proofs.YtoimdiballicnaaGreatDoor
open Go.RowKit
set_option linter.all false
set_option maxHeartbeats 16000000
set_option maxRecDepth 100000
theorem apFs_ap{s:Sub}(hs:SubOk s)(t:List Fd):apFs s (apFs s t)=apFs s t:=fixFs_ap (apFs_fix hs t)
theorem nrm_labs_sub{l:List Fd}{r:Int}{x:List UInt8}(h:x ∈ labs (nrm l r).1):x ∈ labs l:=by
 obtain⟨f,hf,rfl⟩:=labs_mem.1 h
 exact labs_mem.2 ⟨f,nrm_mem hf,rfl⟩
theorem grown_cases(A:Ab):A.grown=0∨A.grown=3:=by unfold Ab.grown;split <;> simp
def Gr0(A:Ab)(r:Int×Ab):Prop:=A.grown=0→r.1=0→r.2.grown=0
theorem put_gr(A:Ab)(u:Sub):Gr0 A (A.put u):=fun _ h=>h
theorem bindA_gr(A:Ab)(v:Int)(t:TyT):Gr0 A (bindA A v t):=by
 unfold bindA;split
 ·exact fun h _=>h
 ·exact put_gr _ _
theorem restA_gr(A:Ab)(v:Int)(fs:List Fd)(r:Int):Gr0 A (restA A v fs r):=by
 unfold restA;split
 ·exact fun h _=>h
 ·exact put_gr _ _
theorem absA_gr(A:Ab)(f:Fd):Gr0 A (absA A f):=by
 unfold absA;split
 ·exact fun h _=>h
 ·split
  ·exact put_gr _ _
  ·exact fun h _=>h
theorem presA_gr(A:Ab)(f g:Fd):Gr0 A (presA A f g):=by
 unfold presA;split
 ·exact fun h _=>h
 ·split
  ·exact put_gr _ _
  ·split
   ·exact put_gr _ _
   ·split <;> exact fun h _=>h
theorem restsA_gr(A:Ab)(a b:Int)(o1 o2:List Fd):Gr0 A (restsA A a b o1 o2):=by
 unfold restsA
 split
 ·split <;> exact fun h _=>h
 ·split
  ·exact restA_gr _ _ _ _
  ·split
   ·exact restA_gr _ _ _ _
   ·split
    ·exact restA_gr _ _ _ _
    ·dsimp only
     have k:=restA_gr { A with most:=A.most+1 } a o2 (A.most+1)
     intro hg he
     split at he
     ·rename_i c;exact absurd he c
     ·rename_i c;rw[if_neg c]
      exact restA_gr _ _ _ _ (k hg (Decidable.not_not.1 c)) he
theorem gr_all:∀ n,(∀ A x y r,uni n A x y=some r→Gr0 A r)∧(∀ A l m r,uniL n A l m=some r→Gr0 A r)∧(∀ A F ra Gs rb r,uniR n A F ra Gs rb=some r→Gr0 A r)∧(∀ A q p ls r,uniM n A q p ls=some r→Gr0 A r)∧(∀ A q p x r,uniX n A q p x=some r→Gr0 A r)
 | 0=>⟨(fun _ _ _ _ h=>by rw[uni] at h;cases h),(fun _ _ _ _ h=>by rw[uniL] at h;cases h),(fun _ _ _ _ _ _ h=>by rw[uniR] at h;cases h),(fun _ _ _ _ _ h=>by rw[uniM] at h;cases h),(fun _ _ _ _ _ h=>by rw[uniX] at h;cases h)⟩
 | n+1=>by
  obtain⟨hT,hL,hR,hM,hX⟩:=gr_all n
  have next:∀ {A:Ab} {r r':Int×Ab} {f:Option (Int×Ab)},Gr0 A r→(if r.1≠0 then some r else f)=some r'→(f=some r'→Gr0 r.2 r')→Gr0 A r':=fun{A r r' f} h hr hk hg he=>by
   by_cases c:r.1≠0
   ·rw[if_pos c] at hr;cases hr;exact absurd he c
   ·rw[if_neg c] at hr;exact hk hr (h hg (Decidable.not_not.1 c)) he
  refine⟨fun A x y r h=>?_,fun A l m r h=>?_,fun A F ra Gs rb r h=>?_,fun A q p ls r h=>?_,fun A q p x r h=>?_⟩
  ·rw[uni] at h
   split at h
   ·cases h;exact fun h _=>h
   ·split at h
    ·cases h;exact bindA_gr _ _ _
    ·split at h
     ·cases h;exact bindA_gr _ _ _
     ·split at h
      ·cases h;exact fun h _=>h
      ·cases hu:uniL n A (ap A.s x).args (ap A.s y).args with
       | none=>rw[hu] at h;cases h
       | some r1 =>
        obtain⟨e,A1⟩:=r1
        rw[hu] at h
        dsimp only at h
        refine next (hL _ _ _ _ hu) h (fun h=>?_)
        split at h
        ·exact hR _ _ _ _ _ _ h
        ·cases h;exact fun h _=>h
  ·cases l with
   | nil=>rw[uniL] at h <;> first|(cases h;exact fun h _=>h)| simp
   | cons x l =>
    cases m with
    | nil=>rw[uniL] at h <;> first|(cases h;exact fun h _=>h)| simp
    | cons y m =>
     rw[uniL] at h
     cases hu:uni n A x y with
     | none=>rw[hu] at h;cases h
     | some r1 =>
      obtain⟨e,A1⟩:=r1
      rw[hu] at h
      dsimp only at h
      exact next (hT _ _ _ _ hu) h (fun h=>hL _ _ _ _ h)
  ·rw[uniR] at h
   cases hu:uniM n A (apRow A.s F ra) (apRow A.s Gs rb) (lsOf (apRow A.s F ra).1 (apRow A.s Gs rb).1)with
   | none=>rw[hu] at h;cases h
   | some r1 =>
    obtain⟨e,A1⟩:=r1
    rw[hu] at h
    dsimp only at h
    refine next (hM _ _ _ _ _ hu) h (fun h=>?_)
    split at h
    ·exact hR _ _ _ _ _ _ h
    ·cases h;exact restsA_gr _ _ _ _ _
  ·cases ls with
   | nil=>rw[uniM] at h;cases h;exact fun h _=>h
   | cons x ls =>
    rw[uniM] at h
    cases hu:uniX n A q p x with
    | none=>rw[hu] at h;cases h
    | some r1 =>
     obtain⟨e,A1⟩:=r1
     rw[hu] at h
     dsimp only at h
     exact next (hX _ _ _ _ _ hu) h (fun h=>hM _ _ _ _ _ h)
  ·rw[uniX] at h
   cases h1:fnd x q.1 with
   | none =>
    rw[h1] at h
    cases h2:fnd x p.1 with
    | none=>rw[h2] at h;cases h;exact fun h _=>h
    | some g =>
     rw[h2] at h
     cases h
     split
     ·exact absA_gr _ _
     ·exact fun h _=>h
   | some f =>
    rw[h1] at h
    cases h2:fnd x p.1 with
    | none =>
     rw[h2] at h
     cases h
     split
     ·exact absA_gr _ _
     ·exact fun h _=>h
    | some g =>
     rw[h2] at h
     dsimp only at h
     have kk:=presA_gr A (apF A.s f) (apF A.s g)
     split at h
     ·cases h;exact kk
     ·rename_i c
      have he:(presA A (apF A.s f) (apF A.s g)).1=0:=Classical.byContradiction (fun h=>c (.inl h))
      exact fun hg h0=>hT _ _ _ _ h (kk hg he) h0
def renP(g:Int→Int)(q:Int×Int):Int×Int:=(q.1,if q.1=2 then g q.2 else q.2)
theorem renTs_map(g:Int→Int)(l:List TyT):renTs g l=l.map (ren g):=by
 induction l with
 | nil=>rfl
 | cons x l ih=>rw[renTs,ih];rfl
theorem renF_pr(g:Int→Int)(f:Fd):(renF g f).pr=f.pr:=by obtain⟨lb,pr,p,t⟩:=f;rfl
theorem renF_t(g:Int→Int)(f:Fd):(renF g f).t=ren g f.t:=by obtain⟨lb,pr,p,t⟩:=f;rfl
theorem nrm_ren{g:Int→Int}(hg:NZ g)(l:List Fd)(r:Int):nrm (renFs g l) (if r=0 then 0 else g r)=renR g (nrm l r):=by
 have hs:srt (renFs g l)=renFs g (srt l):=by rw[renFs_map,renFs_map,srt_map _ (renF_lb g)]
 have hf:∀ m:List Fd,(renFs g m).filter here=renFs g (m.filter here):=by
  intro m
  rw[renFs_map,renFs_map,List.filter_map]
  congr 1
  exact List.filter_congr (fun f _=>by simp[here,Function.comp,renF_pr])
 unfold nrm renR
 dsimp only
 by_cases h:r=0
 ·rw[if_pos h,if_pos h,if_pos rfl,hs,hf]
 ·rw[if_neg h,if_neg (hg r h),if_neg h,hs]
structure Corr (G:Ctx)(s:Sub)(g g1:Int→Int)(u u':Sub):Prop where
 ty:∀ v,G v = .ty→s.ty v = .var v→u'.ty (g v)=ren g1 (u.ty v)
 pr:∀ p,G p = .pr→s.pr p=(2,p)→u'.pr (g p)=renP g1 (u.pr p)
 rw_:∀ r k L,G r = .rw k L→s.rw r=([],r)→u'.rw (g r)=renR g1 (u.rw r)
 nz:NZ g1
 ok:u.ok
 ok':u'.ok
mutual
theorem ren_ap{G:Ctx}{s u u':Sub}{g g1:Int→Int}(hc:Corr G s g g1 u u'):∀ {z:TyT},FixT s z→WfT G z→ap u' (ren g z)=ren g1 (ap u z)
 | .mk k v args fs rest,hf,hw=>by
  rw[FixT] at hf
  rw[WfT] at hw
  rw[ren,ap,ap]
  by_cases h1:k=1
  ·rw[if_pos h1] at hf
   rw[if_pos h1,if_pos h1,if_pos h1]
   exact hc.ty v (hw.2.1 h1).2 hf.1
  ·rw[if_neg h1] at hf
   rw[if_neg h1,if_neg h1,if_neg h1,renTs_ap hc hf.1 hw.2.2.2.1]
   by_cases h2:rwd k=true
   ·rw[if_pos h2] at hf
    have hw6:=hw.2.2.2.2.2
    rw[if_pos h2] at hw6
    rw[if_pos h2,if_pos h2]
    have:=renRow_ap hc (fs:=fs) (rest:=rest) hf.2 hw.2.2.2.2.1 hw6.2.2
    unfold apRow renR at this
    dsimp only at this ⊢
    rw[this,ren,if_neg h1]
   ·rw[if_neg h2,if_neg h2,ren,if_neg h1];rfl
theorem renTs_ap{G:Ctx}{s u u':Sub}{g g1:Int→Int}(hc:Corr G s g g1 u u'):∀ {l:List TyT},FixTs s l→WfTs G l→apTs u' (renTs g l)=renTs g1 (apTs u l)
 | [],_,_=>rfl
 | x::l,hf,hw=>by
  rw[FixTs] at hf;rw[WfTs] at hw
  rw[renTs,apTs,apTs,renTs,ren_ap hc hf.1 hw.1,renTs_ap hc hf.2 hw.2]
theorem renFs_ap{G:Ctx}{s u u':Sub}{g g1:Int→Int}(hc:Corr G s g g1 u u'):∀ {l:List Fd},FixFs s l→WfFs G l→apFs u' (renFs g l)=renFs g1 (apFs u l)
 | [],_,_=>rfl
 | x::l,hf,hw=>by
  rw[FixFs] at hf;rw[WfFs] at hw
  rw[renFs,apFs,apFs,renFs,renF_ap hc hf.1 hw.1,renFs_ap hc hf.2 hw.2]
theorem renF_ap{G:Ctx}{s u u':Sub}{g g1:Int→Int}(hc:Corr G s g g1 u u'):∀ {f:Fd},FixF s f→WfF G f→apF u' (renF g f)=renF g1 (apF u f)
 | ⟨lb,pr,p,t⟩,hf,hw=>by
  rw[FixF] at hf
  rw[WfF] at hw
  rw[renF,apF,apF]
  rcases hw with⟨rfl,rfl,rfl⟩| ⟨rfl,rfl,ht⟩| ⟨rfl,hp,hg,ht⟩
  ·rfl
  ·rw[if_neg (by decide)] at hf
   rw[if_neg (by decide),if_neg (by decide),if_neg (by decide),if_neg (by decide),if_neg (by decide),ren_ap hc hf.1 ht];rfl
  ·rw[if_neg (by decide)] at hf
   rw[if_pos rfl,if_pos rfl,if_pos rfl,hc.pr p hg (hf.2 rfl)]
   unfold renP
   dsimp only
   by_cases h0:(u.pr p).1=0
   ·rw[if_pos h0,if_pos h0,h0];rfl
   ·rw[if_neg h0,if_neg h0,ren_ap hc hf.1 ht,renF]
theorem renRow_ap{G:Ctx}{s u u':Sub}{g g1:Int→Int}(hc:Corr G s g g1 u u'):∀ {fs:List Fd}{rest k:Int}{P:List UInt8→Prop},FixR s (fs,rest)→WfFs G fs→EndR G k P rest→apRow u' (renFs g fs) (if rest=0 then 0 else g rest)=renR g1 (apRow u fs rest)
 | fs,rest,k,P,hf,hw,he=>by
  unfold apRow
  rw[renFs_ap hc hf.1 hw]
  have hr:u'.rw (if rest=0 then 0 else g rest)=renR g1 (u.rw rest):=by
   rcases he with e|⟨e1,L,e2,_⟩
   ·rw[if_pos e,e,hc.ok,hc.ok'];rfl
   ·rw[if_neg (by omega)];exact hc.rw_ rest k L e2 hf.2.1
  rw[hr]
  have:renFs g1 (apFs u fs)++(renR g1 (u.rw rest)).1=renFs g1 (apFs u fs++(u.rw rest).1):=by
   show renFs g1 (apFs u fs)++renFs g1 (u.rw rest).1=_
   rw[renFs_map,renFs_map,renFs_map,List.map_append]
  rw[this]
  exact nrm_ren hc.nz _ _
end
theorem tr_of{G:Ctx}{g g1:Int→Int}{A B A1 B1:Ab}{u u':Sub}(hA:AOk G A)(hc:Corr G A.s g g1 u u')(ea:A1.s=cmp u A.s)(eb:B1.s=cmp u' B.s):Tr G g A B g1 A1 B1:=by
 refine⟨fun z z' hw e=>?_,fun z z' hw e=>?_,fun k C F F' r r' hw hr e=>?_⟩
 ·rw[ea,eb,← ap_cmp _ _ hc.ok',← ap_cmp _ _ hc.ok,e,ren_ap hc (ap_fix hA.so z) (ap_wf hA.sw hw)]
 ·rw[ea,eb,← apF_cmp _ _ hc.ok',← apF_cmp _ _ hc.ok,e,renF_ap hc (apF_fix hA.so z) (apF_wf hA.sw hw)]
 ·rw[ea,eb,← apRow_cmp _ _ hc.ok',← apRow_cmp _ _ hc.ok,e]
  have w:=apRow_wf hA.sw hw hr
  exact renRow_ap hc (apRow_fix hA.so F r) w.1 w.2.2.2
mutual
theorem szT_ren(g:Int→Int):∀ t,szT (ren g t)=szT t
 | .mk k v args fs rest=>by rw[ren,szT,szT,szTs_ren g args,szFs_ren g fs]
theorem szTs_ren(g:Int→Int):∀ l,szTs (renTs g l)=szTs l
 | []=>rfl
 | x::l=>by rw[renTs,szTs,szTs,szT_ren g x,szTs_ren g l]
theorem szFs_ren(g:Int→Int):∀ l,szFs (renFs g l)=szFs l
 | []=>rfl
 | x::l=>by rw[renFs,szFs,szFs,szF_ren g x,szFs_ren g l]
theorem szF_ren(g:Int→Int):∀ f,szF (renF g f)=szF f
 | ⟨lb,pr,p,t⟩=>by rw[renF,szF,szF,szT_ren g t]
end
theorem grown_sim{sw:Bool}{g:Int→Int}{A B:Ab}(va:ap B.s (if sw then B.b else B.a)=ren g (ap A.s A.a))(vb:ap B.s (if sw then B.a else B.b)=ren g (ap A.s A.b)):B.grown=A.grown:=by
 unfold Ab.grown
 cases sw
 ·have va:ap B.s B.a=ren g (ap A.s A.a):=va
  have vb:ap B.s B.b=ren g (ap A.s A.b):=vb
  rw[va,vb,szT_ren,szT_ren]
 ·have va:ap B.s B.b=ren g (ap A.s A.a):=va
  have vb:ap B.s B.a=ren g (ap A.s A.b):=vb
  rw[va,vb,szT_ren,szT_ren]
  simp only[or_comm]
theorem bd_live{G:Ctx}{A:Ab}{u:Sub}{v x:Int}(h:AOk G A)(b:Bd G A u v)(hx:Lv G (A.put u).2 x):Lv G A x∧x≠v:=by
 obtain⟨h0,h1,h2,h3⟩:=hx
 have h1:(cmp u A.s).ty x = .var x:=h1
 have h2:(cmp u A.s).pr x=(2,x):=h2
 have h3:(cmp u A.s).rw x=([],x):=h3
 have hne:x≠v:=fun e=>by
  subst e
  obtain⟨n1,n2,n3⟩:=b.nb
  rw[cmp_ty,n1,ap_var] at h1
  rw[cmp_pr,n2,if_pos rfl] at h2
  rw[cmp_rw,n3] at h3
  dsimp only at h3
  rw[apFs,List.nil_append] at h3
  have h3:u.rw x=([],x):=h3
  have h2:u.pr x=(2,x):=h2
  have:=b.bd
  unfold bnd at this
  rw[h1,h2,h3] at this
  simp[TyT.var,TyT.k,TyT.v] at this
 refine⟨⟨h0,?_,?_,?_⟩,hne⟩
 ·rw[cmp_ty] at h1
  have hk:(A.s.ty x).k=1:=Classical.byContradiction (fun hk=>by have:=ap_k u hk;rw[h1] at this;exact hk this.symm)
  obtain⟨e1,e2⟩:=var_of_fix (h.so.ty x) hk
  rw[e1,ap_var] at h1
  by_cases e3:(A.s.ty x).v=v
  ·rw[e3] at h1;exact b.tt x h1
  ·rw[b.it _ e3] at h1;rw[e1];exact h1
 ·rw[cmp_pr] at h2
  by_cases e:(A.s.pr x).1=2
  ·rw[if_pos e] at h2
   by_cases e3:(A.s.pr x).2=v
   ·rw[e3] at h2;exact b.tp x h2
   ·rw[b.ip _ e3] at h2
    exact Prod.ext e (Prod.mk.inj h2).2
  ·rw[if_neg e] at h2;exact h2
 ·rw[cmp_rw] at h3
  have h4:(u.rw (A.s.rw x).2).2=x:=congrArg Prod.snd h3
  have h5:(A.s.rw x).2=x:=by
   by_cases e3:(A.s.rw x).2=v
   ·rw[e3] at h4
    have:=b.tr
    rw[h4] at this
    rw[this]
   ·rw[b.ir _ e3] at h4;exact h4
  have:=(h.so.rw_ x).2
  rw[h5] at this;exact this
theorem live_put{G:Ctx}{A:Ab}{u:Sub}{v x:Int}(hx:Lv G A x)(hne:x≠v)(it:∀ x,x≠v→u.ty x = .var x)(ip:∀ x,x≠v→u.pr x=(2,x))(ir:∀ x,x≠v→u.rw x=([],x)):Lv G (A.put u).2 x:=by
 refine⟨hx.1,?_,?_,?_⟩
 ·show(cmp u A.s).ty x=_
  rw[cmp_ty,hx.2.1,ap_var,it x hne]
 ·show(cmp u A.s).pr x=_
  rw[cmp_pr,hx.2.2.1,if_pos rfl,ip x hne]
 ·show(cmp u A.s).rw x=_
  rw[cmp_rw,hx.2.2.2]
  dsimp only
  rw[apFs,List.nil_append,ir x hne]
theorem sim_put{sw:Bool}{g g1:Int→Int}{G H:Ctx}{A B:Ab}{u u':Sub}{v v':Int}(h:Sim sw g G A H B)(b:Bd G A u v)(b':Bd H B u' v')(hc:Corr G A.s g g1 u u')
  (hl:∀ x,Lv G A x→x≠v→H (g1 x)=G x∧Lv H B (g1 x)∧g1 x≠v') (hi:∀ x y,Lv G A x→Lv G A y→x≠v→y≠v→g1 x=g1 y→x=y):SimO sw g G A H B (A.put u) (B.put u'):=by
 have tr:Tr G g A B g1 (A.put u).2 (B.put u').2:=tr_of h.oa hc rfl rfl
 have a1:=(bd_adv h.oa b).1
 have a2:=(bd_adv h.ob b').1
 have va:ap (B.put u').2.s (if sw then (B.put u').2.b else (B.put u').2.a)=ren g1 (ap (A.put u).2.s (A.put u).2.a):=tr.t A.a _ h.oa.wa h.va
 have vb:ap (B.put u').2.s (if sw then (B.put u').2.a else (B.put u').2.b)=ren g1 (ap (A.put u).2.s (A.put u).2.b):=tr.t A.b _ h.oa.wb h.vb
 have hg:(B.put u').1=(A.put u).1:=grown_sim va vb
 by_cases e:(A.put u).1=0
 ·refine .inr (.inr ⟨e,hg.trans e,g1,G,H,⟨a1.ok,a2.ok,hc.nz,fun x hx=>?_,fun x y hx hy e=>?_,va,vb⟩,tr,.refl G,.refl H⟩)
  ·obtain⟨k1,k2⟩:=bd_live h.oa b hx
   obtain⟨k3,k4,k5⟩:=hl x k1 k2
   exact⟨k3,live_put k4 k5 b'.it b'.ip b'.ir⟩
  ·obtain⟨k1,k2⟩:=bd_live h.oa b hx
   obtain⟨k3,k4⟩:=bd_live h.oa b hy
   exact hi x y k1 k3 k2 k4 e
 ·exact .inr (.inl ⟨e,by rw[hg];exact e,fun _=>hg.symm⟩)
theorem lv_of_ty{G:Ctx}{A:Ab}(h:AOk G A){v:Int}(hv:G v = .ty)(hn:A.s.ty v = .var v):Lv G A v:=⟨by rw[hv];simp,hn,lv_pr h (by rw[hv];simp),lv_rw h (by rw[hv];simp)⟩
theorem lv_of_pr{G:Ctx}{A:Ab}(h:AOk G A){v:Int}(hv:G v = .pr)(hn:A.s.pr v=(2,v)):Lv G A v:=⟨by rw[hv];simp,lv_ty h (by rw[hv];simp),hn,lv_rw h (by rw[hv];simp)⟩
theorem lv_of_rw{G:Ctx}{A:Ab}(h:AOk G A){v k:Int}{L:List (List UInt8)}(hv:G v = .rw k L)(hn:A.s.rw v=([],v)):Lv G A v:=⟨by rw[hv];simp,lv_ty h (by rw[hv];simp),lv_pr h (by rw[hv];simp),hn⟩
theorem ren_var(g:Int→Int)(v:Int):ren g (.var v)= .var (g v):=by rw[TyT.var,ren,if_pos rfl];rfl
section
variable {sw:Bool} {g:Int→Int} {G H:Ctx} {A B:Ab}
theorem Sim.eq_iff(h:Sim sw g G A H B){u v:Int}(hu:Lv G A u)(hv:Lv G A v):(g u==g v)=(u==v):=by
 by_cases e:u=v
 ·subst e;simp
 ·rw[beq_eq_false_iff_ne.2 e,beq_eq_false_iff_ne];exact fun c=>e (h.inj u v hu hv c)
mutual
theorem occ_ren(h:Sim sw g G A H B){v:Int}(hv:Lv G A v):∀ {z:TyT},FixT A.s z→WfT G z→occT (g v) (ren g z)=occT v z
 | .mk k u args fs rest,hf,hw=>by
  rw[FixT] at hf
  rw[WfT] at hw
  rw[ren,occT,occT]
  by_cases h1:k=1
  ·rw[if_pos h1] at hf
   obtain⟨f1,rfl,rfl,rfl⟩:=hf
   subst h1
   rw[if_pos rfl,if_pos rfl,h.eq_iff (lv_of_ty h.oa (hw.2.1 rfl).2 f1) hv]
   rfl
  ·rw[if_neg h1] at hf
   have hk:(k==1)=false:=beq_eq_false_iff_ne.2 h1
   rw[hk,occTs_ren h hv hf.1 hw.2.2.2.1]
   by_cases h2:rwd k=true
   ·rw[if_pos h2] at hf
    have hw6:=hw.2.2.2.2.2
    rw[if_pos h2] at hw6
    rw[occFs_ren h hv hf.2.1 hw.2.2.2.2.1]
    have hr:((if rest=0 then 0 else g rest)==g v)=(rest==v):=by
     obtain⟨v0,gv0⟩:=h.pos hv
     rcases hw6.2.2 with e|⟨e1,L,e2,_⟩
     ·subst e
      rw[if_pos rfl,beq_eq_false_iff_ne.2 (Ne.symm gv0),beq_eq_false_iff_ne.2 (Ne.symm v0)]
     ·rw[if_neg (by omega)]
      exact h.eq_iff (lv_of_rw h.oa e2 hf.2.2.1) hv
    rw[hr];rfl
   ·rw[Bool.not_eq_true] at h2
    rw[h2];rfl
theorem occTs_ren(h:Sim sw g G A H B){v:Int}(hv:Lv G A v):∀ {l:List TyT},FixTs A.s l→WfTs G l→occTs (g v) (renTs g l)=occTs v l
 | [],_,_=>rfl
 | x::l,hf,hw=>by
  rw[FixTs] at hf;rw[WfTs] at hw
  rw[renTs,occTs,occTs,occ_ren h hv hf.1 hw.1,occTs_ren h hv hf.2 hw.2]
theorem occFs_ren(h:Sim sw g G A H B){v:Int}(hv:Lv G A v):∀ {l:List Fd},FixFs A.s l→WfFs G l→occFs (g v) (renFs g l)=occFs v l
 | [],_,_=>rfl
 | x::l,hf,hw=>by
  rw[FixFs] at hf;rw[WfFs] at hw
  rw[renFs,occFs,occFs,occF_ren h hv hf.1 hw.1,occFs_ren h hv hf.2 hw.2]
theorem occF_ren(h:Sim sw g G A H B){v:Int}(hv:Lv G A v):∀ {f:Fd},FixF A.s f→WfF G f→occF (g v) (renF g f)=occF v f
 | ⟨lb,pr,p,t⟩,hf,hw=>by
  rw[FixF] at hf
  rw[WfF] at hw
  rw[renF,occF,occF]
  rcases hw with⟨rfl,rfl,rfl⟩| ⟨rfl,rfl,ht⟩| ⟨rfl,hp,hg,ht⟩
  ·rfl
  ·rw[if_neg (by decide)] at hf
   rw[occ_ren h hv hf.1 ht]
  ·rw[if_neg (by decide)] at hf
   rw[occ_ren h hv hf.1 ht]
end
theorem occR_ren(h:Sim sw g G A H B){v k:Int}{P:List UInt8→Prop}(hv:Lv G A v){q:List Fd×Int}(hf:FixR A.s q)(hw:WfFs G q.1)(he:EndR G k P q.2):occR (g v) (renR g q)=occR v q:=by
 unfold occR renR
 dsimp only
 rw[occFs_ren h hv hf.1 hw]
 congr 1
 obtain⟨v0,gv0⟩:=h.pos hv
 rcases he with e|⟨e1,L,e2,_⟩
 ·rw[e,if_pos rfl,beq_eq_false_iff_ne.2 (Ne.symm gv0),beq_eq_false_iff_ne.2 (Ne.symm v0)]
 ·rw[if_neg (by omega)]
  exact h.eq_iff (lv_of_rw h.oa e2 hf.2.1) hv
theorem sim_ty(h:Sim sw g G A H B){v:Int}{T:TyT}(hv:G v = .ty)(hl:A.s.ty v = .var v)(ft:FixT A.s T)(wt:WfT G T)(ft':FixT B.s (ren g T))(wt':WfT H (ren g T)):SimO sw g G A H B (bindA A v T) (bindA B (g v) (ren g T)):=by
 have lv:=lv_of_ty h.oa hv hl
 obtain⟨k1,k2⟩:=h.lv v lv
 unfold bindA
 rw[occ_ren h lv ft wt]
 by_cases ho:occT v T=true
 ·rw[if_pos ho,if_pos ho];exact .bad (by decide)
 ·rw[if_neg ho,if_neg ho]
  rw[Bool.not_eq_true] at ho
  have hc:Corr G A.s g g (.tyB v T) (.tyB (g v) (ren g T)):=by
   refine⟨fun x hx hn=>?_,fun p hp hn=>?_,fun r k L hr hn=>?_,h.nz,rfl,rfl⟩
   ·show(if g x=g v then ren g T else .var (g x))=ren g (if x=v then T else .var x)
    by_cases e:x=v
    ·rw[if_pos e,if_pos (by rw[e])]
    ·rw[if_neg e,if_neg (fun c=>e (h.inj x v (lv_of_ty h.oa hx hn) lv c)),ren_var]
   ·rfl
   ·show([],g r)=renR g ([],r)
    unfold renR
    rw[if_neg (by have:=h.oa.pos r (by rw[hr];simp);dsimp only;omega)];rfl
  exact sim_put h (tyB_bd h.oa hv hl ft wt ho) (tyB_bd h.ob (k1.trans hv) k2.2.1 ft' wt' (by rw[occ_ren h lv ft wt];exact ho)) hc
   (fun x hx hne=>⟨(h.lv x hx).1,(h.lv x hx).2,fun c=>hne (h.inj x v hx lv c)⟩) (fun x y hx hy _ _ e=>h.inj x y hx hy e)
def flip1(g:Int→Int)(a b:Int):Int→Int:=fun x=>if x=b then g a else g x
theorem flip_hl(h:Sim sw g G A H B){a b:Int}(la:Lv G A a)(lb:Lv G A b)(hab:a≠b)(hr:G a=G b):∀ x,Lv G A x→x≠a→H (flip1 g a b x)=G x∧Lv H B (flip1 g a b x)∧flip1 g a b x≠g b:=fun x hx hne=>by
 unfold flip1
 by_cases e:x=b
 ·rw[if_pos e,e]
  exact⟨(h.lv a la).1.trans hr,(h.lv a la).2,fun c=>hab (h.inj a b la lb c)⟩
 ·rw[if_neg e]
  exact⟨(h.lv x hx).1,(h.lv x hx).2,fun c=>e (h.inj x b hx lb c)⟩
theorem flip_inj(h:Sim sw g G A H B){a b:Int}(la:Lv G A a):∀ x y,Lv G A x→Lv G A y→x≠a→y≠a→flip1 g a b x=flip1 g a b y→x=y:=fun x y hx hy nx ny e=>by
 unfold flip1 at e
 by_cases ex:x=b
 ·by_cases ey:y=b
  ·rw[ex,ey]
  ·rw[if_pos ex,if_neg ey] at e
   exact absurd (h.inj a y la hy e).symm ny
 ·by_cases ey:y=b
  ·rw[if_neg ex,if_pos ey] at e
   exact absurd (h.inj x a hx la e) nx
  ·rw[if_neg ex,if_neg ey] at e
   exact h.inj x y hx hy e
theorem flip_nz(h:Sim sw g G A H B){a b:Int}(la:Lv G A a):NZ (flip1 g a b):=fun r hr=>by
 unfold flip1;split
 ·exact(h.pos la).2
 ·exact h.nz r hr
theorem sim_ty_flip(h:Sim sw g G A H B){a b:Int}(ha:G a = .ty)(hb:G b = .ty)(la:A.s.ty a = .var a)(lb:A.s.ty b = .var b)(hab:a≠b):SimO sw g G A H B (bindA A a (.var b)) (bindA B (g b) (.var (g a))):=by
 have va:=lv_of_ty h.oa ha la
 have vb:=lv_of_ty h.oa hb lb
 obtain⟨a1,a2⟩:=h.lv a va
 obtain⟨b1,b2⟩:=h.lv b vb
 have hgab:g a≠g b:=fun c=>hab (h.inj a b va vb c)
 have occ_var:∀ u v:Int,u≠v→occT u (.var v)=false:=fun u v e=>by
  rw[TyT.var,occT]
  simp[occTs,rwd,Ne.symm e]
 have o1:=occ_var a b hab
 have o2:=occ_var (g b) (g a) (Ne.symm hgab)
 unfold bindA
 rw[o1,o2,if_neg (by simp),if_neg (by simp)]
 have fixv:∀ {s:Sub} {v:Int},s.ty v = .var v→FixT s (.var v):=fun{s v} e=>by rw[TyT.var,FixT,if_pos rfl];exact⟨e,rfl,rfl,rfl⟩
 have hc:Corr G A.s g (flip1 g a b) (.tyB a (.var b)) (.tyB (g b) (.var (g a))):=by
  refine⟨fun x hx hn=>?_,fun p hp hn=>?_,fun r k L hr hn=>?_,flip_nz h va,rfl,rfl⟩
  ·show(if g x=g b then TyT.var (g a)else .var (g x))=ren (flip1 g a b) (if x=a then .var b else .var x)
   have vx:=lv_of_ty h.oa hx hn
   by_cases ea:x=a
   ·rw[if_pos ea,ren_var,ea,if_neg hgab]
    unfold flip1;rw[if_pos rfl]
   ·rw[if_neg ea,ren_var]
    unfold flip1
    by_cases eb:x=b
    ·rw[if_pos eb,if_pos (by rw[eb])]
    ·rw[if_neg eb,if_neg (fun c=>eb (h.inj x b vx vb c))]
  ·show(2,g p)=renP (flip1 g a b) (2,p)
   unfold renP flip1
   rw[if_pos rfl,if_neg (fun e=>by dsimp only at e;rw[e,hb] at hp;cases hp)]
  ·show([],g r)=renR (flip1 g a b) ([],r)
   unfold renR flip1
   rw[if_neg (by have:=h.oa.pos r (by rw[hr];simp);dsimp only;omega),if_neg (fun e=>by dsimp only at e;rw[e,hb] at hr;cases hr)];rfl
 exact sim_put h (tyB_bd h.oa ha la (fixv lb) (wf_var h.oa.pos hb) o1) (tyB_bd h.ob (b1.trans hb) b2.2.1 (fixv a2.2.1) (wf_var h.ob.pos (a1.trans ha)) o2) hc (flip_hl h va vb hab (ha.trans hb.symm)) (flip_inj h va)
theorem sim_pr(h:Sim sw g G A H B){p:Int}{w:Int×Int}(hp:G p = .pr)(hn:A.s.pr p=(2,p))(hw:w=(0,0)∨w=(1,0)∨(w.1=2∧1≤w.2∧G w.2 = .pr))(hw2:w.1=2→w.2≠p∧A.s.pr w.2=(2,w.2)):SimO sw g G A H B (A.put (.prB p w)) (B.put (.prB (g p) (renP g w))):=by
 have lp:=lv_of_pr h.oa hp hn
 obtain⟨p1,p2⟩:=h.lv p lp
 have hw':renP g w=(0,0)∨renP g w=(1,0)∨((renP g w).1=2∧1≤(renP g w).2∧H (renP g w).2 = .pr):=by
  rcases hw with e|e|⟨e1,e2,e3⟩
  ·rw[e];exact .inl rfl
  ·rw[e];exact .inr (.inl rfl)
  ·have lw:=lv_of_pr h.oa e3 (hw2 e1).2
   have hh:=(h.lv _ lw).1.trans e3
   refine .inr (.inr ⟨e1,?_,?_⟩)
   ·show 1≤(if w.1=2 then g w.2 else w.2)
    rw[if_pos e1];exact h.ob.pos _ (by rw[hh];simp)
   ·show H (if w.1=2 then g w.2 else w.2)= .pr
    rw[if_pos e1];exact hh
 have hw2':(renP g w).1=2→(renP g w).2≠g p∧B.s.pr (renP g w).2=(2,(renP g w).2):=fun e=>by
  have e:w.1=2:=e
  have hGw:G w.2 = .pr:=by
   rcases hw with c|c|c
   ·rw[c] at e;cases e
   ·rw[c] at e;cases e
   ·exact c.2.2
  have lw:=lv_of_pr h.oa hGw (hw2 e).2
  have:(renP g w).2=g w.2:=if_pos e
  rw[this]
  exact⟨fun c=>(hw2 e).1 (h.inj _ _ lw lp c),(h.lv _ lw).2.2.2.1⟩
 have hc:Corr G A.s g g (.prB p w) (.prB (g p) (renP g w)):=by
  refine⟨fun x hx hn=>?_,fun x hx hn=>?_,fun r k L hr hn=>?_,h.nz,rfl,rfl⟩
  ·show TyT.var (g x)=ren g (.var x);rw[ren_var]
  ·show(if g x=g p then renP g w else (2,g x))=renP g (if x=p then w else (2,x))
   by_cases e:x=p
   ·rw[if_pos e,if_pos (by rw[e])]
   ·rw[if_neg e,if_neg (fun c=>e (h.inj x p (lv_of_pr h.oa hx hn) lp c))];rfl
  ·show([],g r)=renR g ([],r)
   unfold renR
   rw[if_neg (by have:=h.oa.pos r (by rw[hr];simp);dsimp only;omega)];rfl
 exact sim_put h (prB_bd h.oa hp hn hw hw2) (prB_bd h.ob (p1.trans hp) p2.2.2.1 hw' hw2') hc
  (fun x hx hne=>⟨(h.lv x hx).1,(h.lv x hx).2,fun c=>hne (h.inj x p hx lp c)⟩) (fun x y hx hy _ _ e=>h.inj x y hx hy e)
theorem sim_pr_flip(h:Sim sw g G A H B){a b:Int}(ha:G a = .pr)(hb:G b = .pr)(la:A.s.pr a=(2,a))(lb:A.s.pr b=(2,b))(hab:a≠b):SimO sw g G A H B (A.put (.prB a (2,b))) (B.put (.prB (g b) (2,g a))):=by
 have va:=lv_of_pr h.oa ha la
 have vb:=lv_of_pr h.oa hb lb
 obtain⟨a1,a2⟩:=h.lv a va
 obtain⟨b1,b2⟩:=h.lv b vb
 have hgab:g a≠g b:=fun c=>hab (h.inj a b va vb c)
 have hc:Corr G A.s g (flip1 g a b) (.prB a (2,b)) (.prB (g b) (2,g a)):=by
  refine⟨fun x hx hn=>?_,fun x hx hn=>?_,fun r k L hr hn=>?_,flip_nz h va,rfl,rfl⟩
  ·show TyT.var (g x)=ren (flip1 g a b) (.var x)
   rw[ren_var]
   unfold flip1
   rw[if_neg (fun e=>by rw[e,hb] at hx;cases hx)]
  ·show(if g x=g b then ((2:Int),g a)else (2,g x))=renP (flip1 g a b) (if x=a then (2,b)else (2,x))
   have vx:=lv_of_pr h.oa hx hn
   by_cases ea:x=a
   ·rw[if_pos ea,ea,if_neg hgab]
    unfold renP flip1;rw[if_pos rfl,if_pos rfl]
   ·rw[if_neg ea]
    unfold renP flip1
    rw[if_pos rfl]
    by_cases eb:x=b
    ·rw[if_pos (by rw[eb]),if_pos (by exact eb)]
    ·rw[if_neg (fun c=>eb (h.inj x b vx vb c)),if_neg (by exact eb)]
  ·show([],g r)=renR (flip1 g a b) ([],r)
   unfold renR flip1
   rw[if_neg (by have:=h.oa.pos r (by rw[hr];simp);dsimp only;omega),if_neg (fun e=>by dsimp only at e;rw[e,hb] at hr;cases hr)];rfl
 have pb:=h.oa.pos b (by rw[hb];simp)
 have pa:=h.ob.pos (g a) (by rw[a1,ha];simp)
 exact sim_put h (prB_bd h.oa ha la (.inr (.inr ⟨rfl,pb,hb⟩)) (fun _=>⟨Ne.symm hab,lb⟩)) (prB_bd h.ob (b1.trans hb) b2.2.2.1 (.inr (.inr ⟨rfl,pa,a1.trans ha⟩)) (fun _=>⟨hgab,a2.2.2.1⟩)) hc (flip_hl h va vb hab (ha.trans hb.symm)) (flip_inj h va)
theorem corr_rw(h:Sim sw g G A H B){v:Int}{Q:List Fd×Int}(lv:Lv G A v):Corr G A.s g g (.rwB v Q) (.rwB (g v) (renR g Q)):=by
 obtain⟨v0,gv0⟩:=h.pos lv
 refine⟨fun x hx hn=>?_,fun p hp hn=>?_,fun x k L hx hn=>?_,h.nz,if_neg (Ne.symm v0),if_neg (Ne.symm gv0)⟩
 ·show TyT.var (g x)=ren g (.var x);rw[ren_var]
 ·rfl
 ·show(if g x=g v then renR g Q else ([],g x))=renR g (if x=v then Q else ([],x))
  by_cases e:x=v
  ·rw[if_pos e,if_pos (by rw[e])]
  ·rw[if_neg e,if_neg (fun c=>e (h.inj x v (lv_of_rw h.oa hx hn) lv c))]
   unfold renR
   rw[if_neg (by have:=h.oa.pos x (by rw[hx];simp);dsimp only;omega)];rfl
theorem sim_rw(h:Sim sw g G A H B){v k r r':Int}{L:List (List UInt8)}{fs fs':List Fd}(hv:G v = .rw k L)(hn:A.s.rw v=([],v))(hw:WfFs G fs)(hr:RowOk G k (· ∈ L) fs r)(hw':WfFs H fs')(hr':RowOk H k (· ∈ L) fs' r')(he:apRow B.s fs' r'=renR g (apRow A.s fs r)):SimO sw g G A H B (restA A v fs r) (restA B (g v) fs' r'):=by
 have lv:=lv_of_rw h.oa hv hn
 obtain⟨k1,k2⟩:=h.lv v lv
 have fq:=apRow_fix h.oa.so fs r
 have wq:=apRow_wf h.oa.sw hw hr
 have fq':=apRow_fix h.ob.so fs' r'
 have wq':=apRow_wf h.ob.sw hw' hr'
 unfold restA
 rw[he] at fq' wq' ⊢
 generalize apRow A.s fs r=Q at *
 have ho':=occR_ren h lv fq wq.1 wq.2.2.2
 rw[ho']
 by_cases ho:occR v Q=true
 ·rw[if_pos ho,if_pos ho];exact .bad (by decide)
 ·rw[if_neg ho,if_neg ho]
  rw[Bool.not_eq_true] at ho
  have hc:Corr G A.s g g (.rwB v Q) (.rwB (g v) (renR g Q)):=corr_rw h lv
  exact sim_put h (rwB_bd h.oa hv hn fq wq.1 wq.2 ho) (rwB_bd h.ob (k1.trans hv) k2.2.2.2 fq' wq'.1 wq'.2 (by rw[ho'];exact ho)) hc
   (fun x hx hne=>⟨(h.lv x hx).1,(h.lv x hx).2,fun c=>hne (h.inj x v hx lv c)⟩) (fun x y hx hy _ _ e=>h.inj x y hx hy e)
theorem apRow_self{s:Sub}{b:Int}(h:s.rw b=([],b)):apRow s [] b=([],b):=by
 unfold apRow
 rw[h,apFs]
 unfold nrm
 dsimp only
 split <;> rfl
theorem sim_rw_flip(h:Sim sw g G A H B){a b k:Int}{L:List (List UInt8)}(ha:G a = .rw k L)(hb:G b = .rw k L)(la:A.s.rw a=([],a))(lb:A.s.rw b=([],b))(hab:a≠b):SimO sw g G A H B (restA A a [] b) (restA B (g b) [] (g a)):=by
 have va:=lv_of_rw h.oa ha la
 have vb:=lv_of_rw h.oa hb lb
 obtain⟨a1,a2⟩:=h.lv a va
 obtain⟨b1,b2⟩:=h.lv b vb
 have hgab:g a≠g b:=fun c=>hab (h.inj a b va vb c)
 have o1:occR a ([],b)=false:=by unfold occR;simp[occFs,Ne.symm hab]
 have o2:occR (g b) ([],g a)=false:=by unfold occR;simp[occFs,hgab]
 obtain⟨a0,ga0⟩:=h.pos va
 obtain⟨b0,gb0⟩:=h.pos vb
 unfold restA
 rw[apRow_self lb,apRow_self a2.2.2.2,o1,o2,if_neg (by simp),if_neg (by simp)]
 have hc:Corr G A.s g (flip1 g a b) (.rwB a ([],b)) (.rwB (g b) ([],g a)):=by
  refine⟨fun x hx hn=>?_,fun p hp hn=>?_,fun x k' L' hx hn=>?_,flip_nz h va,if_neg (Ne.symm a0),if_neg (Ne.symm gb0)⟩
  ·show TyT.var (g x)=ren (flip1 g a b) (.var x)
   rw[ren_var]
   unfold flip1
   rw[if_neg (fun e=>by rw[e,hb] at hx;cases hx)]
  ·show(2,g p)=renP (flip1 g a b) (2,p)
   unfold renP flip1
   rw[if_pos rfl,if_neg (fun e=>by dsimp only at e;rw[e,hb] at hp;cases hp)]
  ·show(if g x=g b then (([]:List Fd),g a)else ([],g x))=renR (flip1 g a b) (if x=a then ([],b)else ([],x))
   have vx:=lv_of_rw h.oa hx hn
   have x0:=h.pos vx
   have eR:∀ y:Int,y≠0→renR (flip1 g a b) ([],y)=([],flip1 g a b y):=fun y hy=>by
    unfold renR
    rw[if_neg (by exact hy)];rfl
   by_cases ea:x=a
   ·rw[if_pos ea,eR b b0,ea,if_neg hgab]
    unfold flip1;rw[if_pos rfl]
   ·rw[if_neg ea,eR x x0.1]
    by_cases eb:x=b
    ·rw[if_pos (by rw[eb])]
     unfold flip1;rw[if_pos eb]
    ·rw[if_neg (fun c=>eb (h.inj x b vx vb c))]
     unfold flip1;rw[if_neg eb]
 have fixr:∀ {s:Sub} {v:Int},s.rw v=([],v)→FixR s ([],v):=fun{s v} e=>⟨trivial,e,by unfold nrm;split <;> rfl⟩
 have rowr:∀ {G:Ctx} {A:Ab} {v:Int},AOk G A→G v = .rw k L→RowOk G k (· ∈ L) [] v:=fun{G A v} h e=>⟨.nil,(fun f hf=>by cases hf),end_self h.pos h.ri e⟩
 exact sim_put h (rwB_bd h.oa ha la (fixr lb) trivial (rowr h.oa hb) o1) (rwB_bd h.ob (b1.trans hb) b2.2.2.2 (fixr a2.2.2.2) trivial (rowr h.ob (a1.trans ha)) o2) hc (flip_hl h va vb hab (ha.trans hb.symm)) (flip_inj h va)
end
theorem nrm_len{l:List Fd}{r:Int}(hr:r≠0):(nrm l r).1.length=l.length:=by
 unfold nrm
 dsimp only
 rw[if_neg hr]
 exact(srt_perm l).length_eq
theorem apFs_len(s:Sub)(l:List Fd):(apFs s l).length=l.length:=by rw[apFs_map,List.length_map]
def More(s s':Sub):Prop:=s'=s∨∃ u:Sub,u.ok∧s'=cmp u s
theorem apRow_srt(s:Sub)(X:List Fd)(r:Int):apRow s (srt X) r=apRow s X r:=by
 unfold apRow nrm
 rw[apFs_map,← srt_map _ (apF_lb s),srt_app,← apFs_map]
theorem apRow_more{s s':Sub}(hs:SubOk s)(hm:More s s'){o:List Fd}{c:Int}(hc:s.rw c=([],c))(h0:c≠0)(r:Int):apRow s' (apRow s o c).1 r=apRow s' o r:=by
 have e1:(apRow s o c).1=srt (apFs s o):=by
  rw[apRow_un hc]
  unfold nrm
  dsimp only
  rw[if_neg h0]
 have e2:apFs s' (apFs s o)=apFs s' o:=by
  rcases hm with e|⟨u,hu,e⟩
  ·rw[e];exact apFs_ap hs o
  ·rw[e,← apFs_cmp u s hu,← apFs_cmp u s hu,apFs_ap hs]
 rw[e1,apRow_srt]
 unfold apRow
 rw[e2]
theorem restA_more{A:Ab}{v r:Int}{fs:List Fd}(hv:v≠0):More A.s (restA A v fs r).2.s:=by
 unfold restA
 split
 ·exact .inl rfl
 ·exact .inr ⟨Sub.rwB v (apRow A.s fs r),if_neg (Ne.symm hv),rfl⟩
theorem restsA_norm{G:Ctx}{A:Ab}{a b:Int}{o1 o2:List Fd}(h:AOk G A)(ha:A.s.rw a=([],a))(hb:A.s.rw b=([],b)):restsA A a b o1 o2=restsA A a b (apRow A.s o1 a).1 (apRow A.s o2 b).1:=by
 have e1:(apRow A.s o1 a).2=a:=by rw[apRow_un ha];rfl
 have e2:(apRow A.s o2 b).2=b:=by rw[apRow_un hb];rfl
 have f1:∀ {o c},A.s.rw c=([],c)→c≠0→(apRow A.s o c).1.length=o.length:=fun{o c} hc h0=>by rw[apRow_un hc,nrm_len h0,apFs_len]
 have q1:=fixR_ap (apRow_fix h.so o1 a)
 have q2:=fixR_ap (apRow_fix h.so o2 b)
 unfold restsA
 by_cases hab:a=b
 ·rw[if_pos hab,if_pos hab]
  by_cases h0:a=0
  ·rw[if_neg (by omega),if_neg (by omega)]
  ·rw[f1 ha h0,f1 hb (by omega)]
 ·rw[if_neg hab,if_neg hab]
  by_cases h0:a=0
  ·rw[if_pos h0,if_pos h0]
   unfold restA
   have:apRow A.s (apRow A.s o1 a).1 0=apRow A.s o1 0:=by rw[e1] at q1;rw[h0] at q1 ⊢;exact q1
   rw[this]
  ·rw[if_neg h0,if_neg h0]
   by_cases h1:b=0
   ·rw[if_pos h1,if_pos h1]
    unfold restA
    have:apRow A.s (apRow A.s o2 b).1 0=apRow A.s o2 0:=by rw[e2] at q2;rw[h1] at q2 ⊢;exact q2
    rw[this]
   ·rw[if_neg h1,if_neg h1,f1 ha h0,f1 hb h1]
    split
    ·rfl
    ·dsimp only
     have g1:restA { A with most:=A.most+1 } a (apRow A.s o2 b).1 (A.most+1)=restA { A with most:=A.most+1 } a o2 (A.most+1):=by
      unfold restA
      dsimp only
      rw[apRow_more h.so (.inl rfl) hb h1]
     rw[g1]
     have hm:=restA_more (A:={ A with most:=A.most+1 }) (v:=a) (r:=A.most+1) (fs:=o2) h0
     generalize restA { A with most:=A.most+1 } a o2 (A.most+1)=R at *
     split
     ·rfl
     ·have:apRow R.2.s (apRow A.s o1 a).1 (A.most+1)=apRow R.2.s o1 (A.most+1):=apRow_more h.so hm ha h0 _
      unfold restA
      rw[this]
theorem onlyL_self{F Gs:List Fd}{ls:List (List UInt8)}(hF:Ri (labs F))(hls:Ri ls)(hm:∀ x,x ∈ labs F→x ∈ ls)(hd:∀ x,x ∈ labs F→x ∉ labs Gs):onlyL F Gs ls=F:=by
 have h1:=split_perm (G:=Gs) (ri_nodup hF) (ri_nodup hls) hm
 have hb:bothL F Gs ls=[]:=by
  apply List.eq_nil_iff_forall_not_mem.2
  intro f hf
  obtain⟨_,g2,g3⟩:=bothL_mem hf
  exact hd _ (labs_mem.2 ⟨f,g2,rfl⟩) g3
 rw[hb,List.nil_append] at h1
 have sdr:∀ {l:List Fd},Ri (labs l)→Sd l:=fun{l} h=>(List.pairwise_map.1 h).imp (fun{a b} hab=>ltB_asym hab)
 exact(sd_eq (sdr hF) (sdr (hls.sublist (onlyL_sub F Gs ls))) h1 (ri_nodup hF)).symm
theorem uniR_noop{G:Ctx}{A:Ab}{k:Int}{C:List UInt8→Prop}{F Gs:List Fd}{ra rb:Int}(hA:AOk G A)(ht:Two G k C (apRow A.s F ra) (apRow A.s Gs rb))(hd:∀ x,x ∈ labs (apRow A.s F ra).1→x ∉ labs (apRow A.s Gs rb).1)
  (h1:(apRow A.s Gs rb).2=0→∀ f ∈ (apRow A.s F ra).1,f.pr=0) (h2:(apRow A.s F ra).2=0→∀ f ∈ (apRow A.s Gs rb).1,f.pr=0) {m:Nat} {r:Int×Ab} (hr:uniR m A F ra Gs rb=some r):
  r=restsA A (apRow A.s F ra).2 (apRow A.s Gs rb).2 (apRow A.s F ra).1 (apRow A.s Gs rb).1:=by
 have fq:=apRow_fix hA.so F ra
 have fp:=apRow_fix hA.so Gs rb
 cases m with
 | zero=>rw[uniR] at hr;cases hr
 | succ m =>
  rw[uniR] at hr
  generalize apRow A.s F ra=q at *
  generalize apRow A.s Gs rb=p at *
  have pr0:∀ {l:List Fd},FixFs A.s l→∀ {f},f ∈ l→f.pr=0→absA A f=(0,A):=fun{l} hl {f} hf e=>by
   have xf:=(fixFs_iff A.s _).1 hl f hf
   unfold absA
   rw[apF_pr,fix_pre xf]
   dsimp only
   rw[e,if_neg (by decide),if_neg (by decide)]
  have hM:∀ (m:Nat) (ls:List (List UInt8)) (r:Int×Ab),uniM m A q p ls=some r→r=(0,A):=by
   intro m
   induction m with
   | zero=>intro ls r h;rw[uniM] at h;cases h
   | succ m ih =>
    intro ls r h
    cases ls with
    | nil=>rw[uniM] at h;exact(Option.some.inj h).symm
    | cons x ls =>
     rw[uniM] at h
     have hX:∀ r',uniX m A q p x=some r'→r'=(0,A):=fun r' h'=>by
      cases m with
      | zero=>rw[uniX] at h';cases h'
      | succ m =>
       rw[uniX] at h'
       cases e1:fnd x q.1 with
       | none =>
        cases e2:fnd x p.1 with
        | none=>rw[e1,e2] at h';exact(Option.some.inj h').symm
        | some g =>
         rw[e1,e2] at h'
         dsimp only at h'
         by_cases hz:q.2=0
         ·rw[if_pos hz,pr0 fp.1 (fnd_some e2).1 (h2 hz g (fnd_some e2).1)] at h'
          exact(Option.some.inj h').symm
         ·rw[if_neg hz] at h';exact(Option.some.inj h').symm
       | some f =>
        cases e2:fnd x p.1 with
        | none =>
         rw[e1,e2] at h'
         dsimp only at h'
         by_cases hz:p.2=0
         ·rw[if_pos hz,pr0 fq.1 (fnd_some e1).1 (h1 hz f (fnd_some e1).1)] at h'
          exact(Option.some.inj h').symm
         ·rw[if_neg hz] at h';exact(Option.some.inj h').symm
        | some g =>
         exfalso
         obtain⟨k1,k2⟩:=fnd_some e1
         obtain⟨k3,k4⟩:=fnd_some e2
         exact hd x (labs_mem.2 ⟨f,k1,k2⟩) (labs_mem.2 ⟨g,k3,k4⟩)
     cases hu:uniX m A q p x with
     | none=>rw[hu] at h;cases h
     | some r1 =>
      have:=hX r1 hu
      subst this
      rw[hu] at h
      dsimp only at h
      rw[if_neg (by simp)] at h
      exact ih ls r h
  cases hu:uniM m A q p (lsOf q.1 p.1)with
  | none=>rw[hu] at hr;cases hr
  | some r1 =>
   have:=hM m _ r1 hu
   subst this
   rw[hu] at hr
   dsimp only at hr
   have t1:told A q.2=false:=by unfold told;rw[fq.2.1];simp
   have t2:told A p.2=false:=by unfold told;rw[fp.2.1];simp
   have hls:=lsOf_ri q.1 p.1
   rw[if_neg (by simp),t1,t2,if_neg (by simp),onlyL_self ht.rq.1 hls (fun x hx=>lsOf_mem.2 (.inl hx)) hd,onlyL_self ht.rp.1 hls (fun x hx=>lsOf_mem.2 (.inr hx)) (fun x hx hc=>hd x hc hx)] at hr
   exact(Option.some.inj hr).symm
mutual
theorem ren_congr{G:Ctx}{g g1:Int→Int}(hg:∀ v,G v≠.no→g1 v=g v):∀ {z:TyT},WfT G z→ren g1 z=ren g z
 | .mk k v args fs rest,hw=>by
  rw[WfT] at hw
  rw[ren,ren,renTs_congr hg hw.2.2.2.1,renFs_congr hg hw.2.2.2.2.1]
  have h1:(if k=1 then g1 v else v)=if k=1 then g v else v:=by
   by_cases e:k=1
   ·rw[if_pos e,if_pos e];exact hg v (by rw[(hw.2.1 e).2];simp)
   ·rw[if_neg e,if_neg e]
  have h2:(if rest=0 then 0 else g1 rest)=if rest=0 then 0 else g rest:=by
   by_cases e:rest=0
   ·rw[if_pos e,if_pos e]
   ·rw[if_neg e,if_neg e]
    have h6:=hw.2.2.2.2.2
    by_cases e2:rwd k=true
    ·rw[if_pos e2] at h6
     rcases h6.2.2 with c|⟨_,L,c,_⟩
     ·exact absurd c e
     ·exact hg rest (by rw[c];simp)
    ·rw[if_neg e2] at h6;exact absurd h6.2 e
  rw[h1,h2]
theorem renTs_congr{G:Ctx}{g g1:Int→Int}(hg:∀ v,G v≠.no→g1 v=g v):∀ {l:List TyT},WfTs G l→renTs g1 l=renTs g l
 | [],_=>rfl
 | x::l,hw=>by rw[WfTs] at hw;rw[renTs,renTs,ren_congr hg hw.1,renTs_congr hg hw.2]
theorem renFs_congr{G:Ctx}{g g1:Int→Int}(hg:∀ v,G v≠.no→g1 v=g v):∀ {l:List Fd},WfFs G l→renFs g1 l=renFs g l
 | [],_=>rfl
 | x::l,hw=>by rw[WfFs] at hw;rw[renFs,renFs,renF_congr hg hw.1,renFs_congr hg hw.2]
theorem renF_congr{G:Ctx}{g g1:Int→Int}(hg:∀ v,G v≠.no→g1 v=g v):∀ {f:Fd},WfF G f→renF g1 f=renF g f
 | ⟨lb,pr,p,t⟩,hw=>by
  rw[WfF] at hw
  rw[renF,renF]
  rcases hw with⟨rfl,rfl,rfl⟩| ⟨rfl,rfl,ht⟩| ⟨rfl,hp,hg2,ht⟩
  ·rfl
  ·rw[ren_congr hg ht,if_neg (by decide),if_neg (by decide)]
  ·rw[ren_congr hg ht,if_pos rfl,if_pos rfl,hg p (by rw[hg2];simp)]
end
def ext1(g:Int→Int)(n n':Int):Int→Int:=fun x=>if x=n then n' else g x
theorem sim_fresh{sw:Bool}{g:Int→Int}{G H:Ctx}{A B:Ab}(h:Sim sw g G A H B)(k:Int)(L:List (List UInt8))(hL:Ri L):
  Sim sw (ext1 g (A.most+1) (B.most+1)) (G.up (A.most+1) (.rw k L)) { A with most:=A.most+1 } (H.up (B.most+1) (.rw k L)) { B with most:=B.most+1 }∧Tr G g A B (ext1 g (A.most+1) (B.most+1)) { A with most:=A.most+1 } { B with most:=B.most+1 }∧Le G (G.up (A.most+1) (.rw k L))∧Le H (H.up (B.most+1) (.rw k L))∧(∀ v,G v≠.no→ext1 g (A.most+1) (B.most+1) v=g v):=by
 obtain⟨l1,o1⟩:=aok_fresh h.oa k L hL
 obtain⟨l2,o2⟩:=aok_fresh h.ob k L hL
 have hn:=h.oa.hi (A.most+1) (by omega)
 have hn':=h.ob.hi (B.most+1) (by omega)
 have hg:∀ v,G v≠.no→ext1 g (A.most+1) (B.most+1) v=g v:=fun v hv=>if_neg (fun e=>by rw[e] at hv;exact hv hn)
 have tr:Tr G g A B (ext1 g (A.most+1) (B.most+1)) { A with most:=A.most+1 } { B with most:=B.most+1 }:=by
  refine⟨fun z z' hw e=>?_,fun z z' hw e=>?_,fun kk C F F' r r' hw hr e=>?_⟩
  ·show ap B.s z'=ren _ (ap A.s z);rw[e,ren_congr hg (ap_wf h.oa.sw hw)]
  ·show apF B.s z'=renF _ (apF A.s z);rw[e,renF_congr hg (apF_wf h.oa.sw hw)]
  ·show apRow B.s F' r'=renR _ (apRow A.s F r)
   have w:=apRow_wf h.oa.sw hw hr
   rw[e]
   unfold renR
   rw[renFs_congr hg w.1]
   congr 1
   by_cases e0:(apRow A.s F r).2=0
   ·rw[if_pos e0,if_pos e0]
   ·rw[if_neg e0,if_neg e0]
    rcases w.2.2.2 with c|⟨_,L',c,_⟩
    ·exact absurd c e0
    ·rw[hg _ (by rw[c];simp)]
 have lvn:∀ x,Lv (G.up (A.most+1) (.rw k L)) { A with most:=A.most+1 } x→x≠A.most+1→Lv G A x:=fun x hx hne=>⟨by have:=hx.1;rw[up_ne _ _ hne] at this;exact this,hx.2⟩
 have lo:∀ x,Lv G A x→g x≠B.most+1:=fun x hx e=>by
  have:=(h.lv x hx).2.1
  rw[e] at this;exact this hn'
 refine⟨⟨o1,o2,fun r hr=>?_,fun x hx=>?_,fun x y hx hy e=>?_,tr.t A.a _ h.oa.wa h.va,tr.t A.b _ h.oa.wb h.vb⟩,tr,l1,l2,hg⟩
 ·unfold ext1;split
  ·have:=h.ob.mo;omega
  ·exact h.nz r hr
 ·by_cases e:x=A.most+1
  ·subst e
   unfold ext1
   rw[if_pos rfl,up_self,up_self]
   exact⟨rfl,by rw[up_self];simp,lv_ty h.ob (by rw[hn'];simp),lv_pr h.ob (by rw[hn'];simp),lv_rw h.ob (by rw[hn'];simp)⟩
  ·have hx':=lvn x hx e
   obtain⟨k1,k2⟩:=h.lv x hx'
   unfold ext1
   rw[if_neg e,up_ne _ _ e,up_ne _ _ (lo x hx')]
   exact⟨k1,by rw[up_ne _ _ (lo x hx')];exact k2.1,k2.2⟩
 ·unfold ext1 at e
  by_cases ex:x=A.most+1
  ·by_cases ey:y=A.most+1
   ·rw[ex,ey]
   ·rw[if_pos ex,if_neg ey] at e
    exact absurd e.symm (lo y (lvn y hy ey))
  ·by_cases ey:y=A.most+1
   ·rw[if_neg ex,if_pos ey] at e
    exact absurd e (lo x (lvn x hx ex))
   ·rw[if_neg ex,if_neg ey] at e
    exact h.inj x y (lvn x hx ex) (lvn y hy ey) e
theorem renR_ne(g:Int→Int){q:List Fd×Int}(h:q.2≠0):renR g q=(renFs g q.1,g q.2):=by unfold renR;rw[if_neg h]
theorem row_new{s:Sub}{Q:List Fd×Int}{n:Int}(hQ:FixR s Q)(h0:Q.2≠0)(hn:s.rw n=([],n))(n0:n≠0):apRow s Q.1 n=(Q.1,n):=by
 have h3:=hQ.2.2
 rw[apRow_un hn,fixFs_ap hQ.1]
 have e1:(nrm Q.1 Q.2).1=Q.1:=by rw[h3]
 unfold nrm at e1 ⊢
 dsimp only at e1 ⊢
 rw[if_neg h0] at e1
 rw[if_neg n0,e1]
section
variable {sw:Bool} {g:Int→Int} {G H:Ctx} {A B:Ab} {k:Int} {C:List UInt8→Prop} {Q P:List Fd×Int}
theorem Rst.vq(h:Rst sw g G A H B k C Q P):apRow B.s (renFs g Q.1) (renR g Q).2=renR g (apRow A.s Q.1 Q.2):=by rw[fixR_ap h.fq];exact fixR_ap h.fq'
theorem behind_ok{G:Ctx}{k:Int}{C:List UInt8→Prop}{Q P:List Fd×Int}(ht:Two G k C Q P)(hd:∀ x,x ∈ labs Q.1→x ∉ labs P.1){L:List (List UInt8)}(hL:∀ x,x ∈ L↔C x∨x ∈ labs P.1){r:Int}(hr:r=0→Q.2=0)(he:EndR G k (fun x=>x ∈ L∨x ∈ labs Q.1) r):RowOk G k (· ∈ L) Q.1 r :=
 ⟨ht.rq.1,fun f hf=>⟨(ht.rq.2.1 f hf).1,fun hc=>((hL _).1 hc).elim (ht.rq.2.1 f hf).2.1 (hd _ (labs_mem.2 ⟨f,hf,rfl⟩)),fun e c=>(ht.rq.2.1 f hf).2.2 e (hr c)⟩,he⟩
theorem sim_closed(h:Rst sw g G A H B k C Q P)(hq:Q.2=0)(hp:P.2≠0):SimO sw g G A H B (restA A P.2 Q.1 0) (restA B (renR g P).2 (renR g Q).1 0):=by
 rcases h.t.rp.2.2 with c|⟨_,L,e1,e2,e3⟩
 ·exact absurd c hp
 have hl:=h.s.lv _ (lv_of_rw h.s.oa e1 h.fp.2.1)
 rw[renR_ne g hp]
 have v:=h.vq
 have e0:(renR g Q).2=0:=by unfold renR;rw[if_pos hq]
 rw[e0,hq] at v
 exact sim_rw h.s e1 h.fp.2.1 h.t.wq (behind_ok h.t h.d e3 (fun _=>hq) (.inl rfl)) h.t'.wq (behind_ok h.t' h.d' (fun x=>by rw[e3 x];have:labs (renR g P).1=labs P.1:=labs_ren g P.1;rw[this]) (fun _=>e0) (.inl rfl)) v
end
mutual
/-- what stands within,once a row's rest is known -/
theorem occ_rw{G:Ctx}{s:Sub}{w v k:Int}{L:List (List UInt8)}{Q:List Fd×Int}(hw:G w = .rw k L)(hv:w≠v):∀ {z:TyT},FixT s z→WfT G z→occT v (ap (.rwB w Q) z)=(occT v z||(occT w z&&occR v Q))
 | .mk kk u args fs rest,hf,hz=>by
  rw[FixT] at hf
  rw[WfT] at hz
  rw[ap]
  by_cases h1:kk=1
  ·rw[if_pos h1] at hf
   obtain⟨f1,rfl,rfl,rfl⟩:=hf
   subst h1
   rw[if_pos rfl]
   have:occT w (.mk 1 u [] [] 0)=false:=by
    rw[occT]
    have hu:=(hz.2.1 rfl).2
    have:(u==w)=false:=beq_eq_false_iff_ne.2 (fun e=>by rw[e,hw] at hu;cases hu)
    rw[this];rfl
   rw[this,Bool.false_and,Bool.or_false];rfl
  ·rw[if_neg h1] at hf
   rw[if_neg h1]
   have hk:(kk==1)=false:=beq_eq_false_iff_ne.2 h1
   have ihA:=occTs_rw (Q:=Q) hw hv hf.1 hz.2.2.2.1
   by_cases h2:rwd kk=true
   ·rw[if_pos h2] at hf ⊢
    have h6:=hz.2.2.2.2.2
    rw[if_pos h2] at h6
    have ihR:=occRow_rw (Q:=Q) hw hv (fs:=fs) (rest:=rest) hf.2 hz.2.2.2.2.1
    unfold apRow occR at ihR
    dsimp only at ihR ⊢
    rw[occT,occT,occT,hk,h2,ihA]
    simp only[Bool.true_and,Bool.false_and,Bool.false_or]
    rw[ihR,show occR v Q=(Q.2==v||occFs v Q.1)from rfl]
    generalize occTs v args=x1
    generalize occTs w args=x2
    generalize (rest==v)=x3
    generalize (rest==w)=x4
    generalize occFs v fs=x5
    generalize occFs w fs=x6
    generalize (Q.2==v||occFs v Q.1)=x7
    revert x1 x2 x3 x4 x5 x6 x7
    decide
   ·rw[if_neg h2] at hf ⊢
    rw[Bool.not_eq_true] at h2
    rw[occT,occT,occT,hk,h2,ihA]
    simp only[Bool.false_and,Bool.false_or,Bool.or_false]
theorem occTs_rw{G:Ctx}{s:Sub}{w v k:Int}{L:List (List UInt8)}{Q:List Fd×Int}(hw:G w = .rw k L)(hv:w≠v):∀ {l:List TyT},FixTs s l→WfTs G l→occTs v (apTs (.rwB w Q) l)=(occTs v l||(occTs w l&&occR v Q))
 | [],_,_=>rfl
 | x::l,hf,hz=>by
  rw[FixTs] at hf;rw[WfTs] at hz
  rw[apTs,occTs,occTs,occTs,occ_rw hw hv hf.1 hz.1,occTs_rw hw hv hf.2 hz.2]
  generalize occT v x=x1
  generalize occT w x=x2
  generalize occTs v l=x3
  generalize occTs w l=x4
  generalize occR v Q=x5
  revert x1 x2 x3 x4 x5
  decide
theorem occFs_rw{G:Ctx}{s:Sub}{w v k:Int}{L:List (List UInt8)}{Q:List Fd×Int}(hw:G w = .rw k L)(hv:w≠v):∀ {l:List Fd},FixFs s l→WfFs G l→occFs v (apFs (.rwB w Q) l)=(occFs v l||(occFs w l&&occR v Q))
 | [],_,_=>rfl
 | x::l,hf,hz=>by
  rw[FixFs] at hf;rw[WfFs] at hz
  rw[apFs,occFs,occFs,occFs,occF_rw hw hv hf.1 hz.1,occFs_rw hw hv hf.2 hz.2]
  generalize occF v x=x1
  generalize occF w x=x2
  generalize occFs v l=x3
  generalize occFs w l=x4
  generalize occR v Q=x5
  revert x1 x2 x3 x4 x5
  decide
theorem occF_rw{G:Ctx}{s:Sub}{w v k:Int}{L:List (List UInt8)}{Q:List Fd×Int}(hw:G w = .rw k L)(hv:w≠v):∀ {f:Fd},FixF s f→WfF G f→occF v (apF (.rwB w Q) f)=(occF v f||(occF w f&&occR v Q))
 | ⟨lb,pr,p,t⟩,hf,hz=>by
  rw[FixF] at hf
  rw[WfF] at hz
  rw[apF]
  rcases hz with⟨rfl,rfl,rfl⟩| ⟨rfl,rfl,ht⟩| ⟨rfl,hp,hg,ht⟩
  ·rfl
  ·rw[if_neg (by decide)] at hf
   rw[if_neg (by decide),if_neg (by decide),occF,occF,occF,occ_rw hw hv hf.1 ht];rfl
  ·rw[if_neg (by decide)] at hf
   have e:(Sub.rwB w Q).pr p=(2,p):=rfl
   rw[if_pos rfl,e,if_neg (by simp),occF,occF,occF,occ_rw hw hv hf.1 ht];rfl
theorem occRow_rw{G:Ctx}{s:Sub}{w v k:Int}{L:List (List UInt8)}{Q:List Fd×Int}(hw:G w = .rw k L)(hv:w≠v):∀ {fs:List Fd}{rest:Int},FixR s (fs,rest)→WfFs G fs→occR v (apRow (.rwB w Q) fs rest)=(occR v (fs,rest)||(occR w (fs,rest)&&occR v Q))
 | fs,rest,hf,hz=>by
  have ih:=occFs_rw (Q:=Q) hw hv hf.1 hz
  have hn:∀ (l:List Fd) (r:Int),occFs v (nrm l r).1=occFs v l:=fun l r=>by
   have hp:∀ {l m:List Fd},l.Perm m→occFs v l=occFs v m:=fun h=>by
    induction h with
    | nil=>rfl
    | cons x _ ih=>rw[occFs,occFs,ih]
    | swap x y l=>rw[occFs,occFs,occFs,occFs];generalize occF v x=a;generalize occF v y=b;generalize occFs v l=c;revert a b c;decide
    | trans _ _ h1 h2=>rw[h1,h2]
   have hfl:∀ l:List Fd,occFs v (l.filter here)=occFs v l:=fun l=>by
    induction l with
    | nil=>rfl
    | cons x l ih =>
     rw[List.filter_cons]
     by_cases e:here x=true
     ·rw[if_pos e,occFs,occFs,ih]
     ·rw[if_neg e,ih,occFs]
      obtain⟨lb,pr,p,t⟩:=x
      have:(pr != 0)=false:=by simpa [here] using e
      rw[occF,this];rfl
   unfold nrm
   dsimp only
   split
   ·rw[hfl,hp (srt_perm l)]
   ·rw[hp (srt_perm l)]
  have ha:∀ l m:List Fd,occFs v (l++m)=(occFs v l||occFs v m):=fun l m=>by
   induction l with
   | nil=>rfl
   | cons x l ih=>rw[List.cons_append,occFs,occFs,ih,Bool.or_assoc]
  unfold apRow occR
  have e2:(nrm (apFs (.rwB w Q) fs++((Sub.rwB w Q).rw rest).1) ((Sub.rwB w Q).rw rest).2).2=((Sub.rwB w Q).rw rest).2:=rfl
  rw[e2,hn,ha,ih]
  unfold occR
  dsimp only
  by_cases e:rest=w
  ·have:(Sub.rwB w Q).rw rest=Q:=if_pos e
   have e3:(rest==v)=false:=beq_eq_false_iff_ne.2 (by rw[e];exact hv)
   rw[this,e3,show(rest==w)=true from beq_iff_eq.2 e]
   generalize (Q.2==v)=a
   generalize occFs v fs=b
   generalize occFs w fs=c
   generalize occFs v Q.1=d
   revert a b c d
   decide
  ·have:(Sub.rwB w Q).rw rest=([],rest):=if_neg e
   rw[this,show(rest==w)=false from beq_eq_false_iff_ne.2 e]
   dsimp only
   rw[occFs]
   generalize (rest==v)=x
   generalize (Q.2==v)=a
   generalize occFs v fs=b
   generalize occFs w fs=c
   generalize occFs v Q.1=d
   revert x a b c d
   decide
end
def bothA(A:Ab)(a b n:Int)(o1 o2:List Fd):Int×Ab:=if (restA A a o2 n).1≠0 then restA A a o2 n else restA (restA A a o2 n).2 b o1 n
section
variable {g:Int→Int} {G H:Ctx} {A B:Ab} {k:Int} {C:List UInt8→Prop} {Q P:List Fd×Int}
structure Fresh (sw:Bool)(g:Int→Int)(G:Ctx)(A:Ab)(H:Ctx)(B:Ab)(k:Int)(Q P:List Fd×Int)(n n':Int)(La Lb:List (List UInt8)):Prop where
 s:Sim sw g G A H B
 ga:G Q.2 = .rw k La
 gb:G P.2 = .rw k Lb
 na:A.s.rw Q.2=([],Q.2)
 nb:A.s.rw P.2=([],P.2)
 wq:WfFs G Q.1
 wp:WfFs G P.1
 wq':WfFs H (renFs g Q.1)
 wp':WfFs H (renFs g P.1)
 rp:RowOk G k (· ∈ La) P.1 n
 rq:RowOk G k (· ∈ Lb) Q.1 n
 rp':RowOk H k (· ∈ La) (renFs g P.1) n'
 rq':RowOk H k (· ∈ Lb) (renFs g Q.1) n'
 gn:g n=n'
 n0:n≠0
 lna:n≠Q.2
 lnb:n≠P.2
 eq:apRow A.s Q.1 n=(Q.1,n)
 ep:apRow A.s P.1 n=(P.1,n)
 eq':apRow B.s (renFs g Q.1) n'=(renFs g Q.1,n')
 ep':apRow B.s (renFs g P.1) n'=(renFs g P.1,n')
 ab:Q.2≠P.2
theorem fresh_of{sw:Bool}(h:Rst sw g G A H B k C Q P)(hq:Q.2≠0)(hp:P.2≠0)(hne:Q.2≠P.2):
  ∃ g1 G1 H1 La Lb,Fresh sw g1 G1 { A with most:=A.most+1 } H1 { B with most:=B.most+1 } k Q P (A.most+1) (B.most+1) La Lb∧Tr G g A B g1 { A with most:=A.most+1 } { B with most:=B.most+1 }∧Le G G1∧Le H H1∧g1 Q.2=(renR g Q).2∧g1 P.2=(renR g P).2∧renFs g1 Q.1=(renR g Q).1∧renFs g1 P.1=(renR g P).1:=by
 rcases h.t.rq.2.2 with c|⟨_,La,a1,a2,a3⟩
 ·exact absurd c hq
 rcases h.t.rp.2.2 with c|⟨_,Lb,b1,b2,b3⟩
 ·exact absurd c hp
 obtain⟨S,tr,l1,l2,hg⟩:=sim_fresh h.s k (mrgL La (labs P.1)) (mrgL_ri _ _)
 have hm:=h.s.oa.mo
 have hm':=h.s.ob.mo
 have e1:ext1 g (A.most+1) (B.most+1) Q.2=g Q.2:=hg _ (by rw[a1];simp)
 have e2:ext1 g (A.most+1) (B.most+1) P.2=g P.2:=hg _ (by rw[b1];simp)
 have c1:renFs (ext1 g (A.most+1) (B.most+1)) Q.1=renFs g Q.1:=renFs_congr hg h.t.wq
 have c2:renFs (ext1 g (A.most+1) (B.most+1)) P.1=renFs g P.1:=renFs_congr hg h.t.wp
 have hn:A.s.rw (A.most+1)=([],A.most+1):=lv_rw h.s.oa (fun k L=>by rw[h.s.oa.hi _ (by omega)];simp)
 have hn':B.s.rw (B.most+1)=([],B.most+1):=lv_rw h.s.ob (fun k L=>by rw[h.s.ob.hi _ (by omega)];simp)
 have hq':(renR g Q).2≠0:=by rw[renR_ne g hq];exact h.s.nz _ hq
 have hp':(renR g P).2≠0:=by rw[renR_ne g hp];exact h.s.nz _ hp
 have lq:labs (renR g Q).1=labs Q.1:=labs_ren g Q.1
 have lp:labs (renR g P).1=labs P.1:=labs_ren g P.1
 have m1:∀ x,x ∈ mrgL La (labs P.1)↔x ∈ La∨x ∈ labs P.1:=fun x=>mrgL_mem
 have m2:∀ x,x ∈ mrgL La (labs P.1)↔x ∈ Lb∨x ∈ labs Q.1:=fun x=>by
  rw[m1,a3 x,b3 x]
  constructor
  ·rintro((c|c)| c)
   ·exact .inl (.inl c)
   ·exact .inr c
   ·exact .inl (.inr c)
  ·rintro((c|c)| c)
   ·exact .inl (.inl c)
   ·exact .inr c
   ·exact .inl (.inr c)
 have gnn:G.up (A.most+1) (.rw k (mrgL La (labs P.1))) (A.most+1)= .rw k (mrgL La (labs P.1)):=up_self _ _ _
 have gnn':H.up (B.most+1) (.rw k (mrgL La (labs P.1))) (B.most+1)= .rw k (mrgL La (labs P.1)):=up_self _ _ _
 have na1:A.most+1≠Q.2:=fun e=>by have:=h.s.oa.hi (A.most+1) (by omega);rw[e,a1] at this;cases this
 have nb1:A.most+1≠P.2:=fun e=>by have:=h.s.oa.hi (A.most+1) (by omega);rw[e,b1] at this;cases this
 refine⟨_,_,_,La,Lb,⟨S,by rw[l1 _ (by rw[a1];simp),a1],by rw[l1 _ (by rw[b1];simp),b1],h.fq.2.1,h.fp.2.1,wfFs_le l1 h.t.wq,wfFs_le l1 h.t.wp,by rw[c1];exact wfFs_le l2 h.t'.wq,by rw[c2];exact wfFs_le l2 h.t'.wp,?_,?_,?_,?_,if_pos rfl,by omega,na1,nb1,row_new h.fq hq hn (by omega),row_new h.fp hp hn (by omega),?_,?_,hne⟩,tr,l1,l2,by rw[e1,renR_ne g hq],by rw[e2,renR_ne g hp],c1,c2⟩
 ·exact behind_ok (h.t.symm.le l1) (fun x hx hc=>h.d x hc hx) a3 (fun e=>by omega) (.inr ⟨by omega,_,gnn,mrgL_ri _ _,m1⟩)
 ·exact behind_ok (h.t.le l1) h.d b3 (fun e=>by omega) (.inr ⟨by omega,_,gnn,mrgL_ri _ _,m2⟩)
 ·rw[c2]
  exact behind_ok (h.t'.symm.le l2) (fun x hx hc=>h.d' x hc hx) (fun x=>by rw[a3 x,lq]) (fun e=>by omega) (.inr ⟨by omega,_,gnn',mrgL_ri _ _,fun x=>by rw[m1 x,lp]⟩)
 ·rw[c1]
  exact behind_ok (h.t'.le l2) h.d' (fun x=>by rw[b3 x,lp]) (fun e=>by omega) (.inr ⟨by omega,_,gnn',mrgL_ri _ _,fun x=>by rw[m2 x,lq]⟩)
 ·rw[c1];exact row_new h.fq' hq' hn' (by omega)
 ·rw[c2];exact row_new h.fp' hp' hn' (by omega)
theorem sim_both{n n':Int}{La Lb:List (List UInt8)}(h:Fresh false g G A H B k Q P n n' La Lb):SimO false g G A H B (bothA A Q.2 P.2 n Q.1 P.1) (bothA B (g Q.2) (g P.2) n' (renFs g Q.1) (renFs g P.1)):=by
 have vn:∀ {F:List Fd},(renFs g F,n')=renR g (F,n):=fun{F}=>by rw[renR_ne g (by exact h.n0),h.gn]
 have s1:=sim_rw h.s h.ga h.na h.wp h.rp h.wp' h.rp' (by rw[h.ep,h.ep'];exact vn)
 have lb:=lv_of_rw h.s.oa h.gb h.nb
 obtain⟨b1,b2⟩:=h.s.lv _ lb
 have la:=lv_of_rw h.s.oa h.ga h.na
 obtain⟨a1,a2⟩:=h.s.lv _ la
 obtain⟨_,_,t1⟩:=restA_adv h.s.oa h.ga h.na h.wp h.rp (e:=(restA A Q.2 P.1 n).1) (A':=(restA A Q.2 P.1 n).2) rfl
 obtain⟨_,_,t2⟩:=restA_adv h.s.ob (a1.trans h.ga) a2.2.2.2 h.wp' h.rp' (e:=(restA B (g Q.2) (renFs g P.1) n').1) (A':=(restA B (g Q.2) (renFs g P.1) n').2) rfl
 have nb2:=t1 P.2 (Ne.symm h.ab) h.nb
 have nb2':=t2 (g P.2) (fun e=>h.ab (h.s.inj _ _ la lb e.symm)) b2.2.2.2
 unfold bothA
 generalize restA A Q.2 P.1 n=r at *
 generalize restA B (g Q.2) (renFs g P.1) n'=q at *
 rcases s1 with⟨c,_⟩| ⟨c1,c2,c3⟩| ⟨c1,c2,g2,G2,H2,S,T,l1,l2⟩
 ·cases c
 ·rw[if_pos c1,if_pos c2];exact .inr (.inl ⟨c1,c2,c3⟩)
 ·rw[if_neg (by simpa using c1),if_neg (by simpa using c2)]
  have p0:=(h.s.pos lb).1
  have hv:=T.r k (· ∈ Lb) [] [] P.2 (g P.2) trivial ⟨.nil,(fun f hf=>by cases hf),end_self h.s.oa.pos h.s.oa.ri h.gb⟩ (by rw[apRow_self h.nb,apRow_self b2.2.2.2,renR_ne g (by exact p0)];rfl)
  rw[apRow_self nb2,apRow_self nb2',renR_ne g2 (by exact p0)] at hv
  have eg:g2 P.2=g P.2:=(Prod.mk.inj hv).2.symm
  have hq:=T.r k (· ∈ Lb) Q.1 (renFs g Q.1) n n' h.wq h.rq (by rw[h.eq,h.eq'];exact vn)
  have:=sim_rw S (by rw[l1 _ (by rw[h.gb];simp),h.gb]) nb2 (wfFs_le l1 h.wq) (h.rq.le l1) (wfFs_le l2 h.wq') (h.rq'.le l2) hq
  rw[eg] at this
  exact this.after T l1 l2
end
theorem sd_of_ri{l:List Fd}(h:Ri (labs l)):Sd l:=(List.pairwise_map.1 h).imp (fun{a b} hab=>ltB_asym hab)
theorem apRow_new{w n:Int}{Q:List Fd×Int}{l:List Fd}(hr:Ri (labs l))(hn:n≠w)(n0:n≠0):apRow (.rwB w Q) l n=(apFs (.rwB w Q) l,n):=by
 have e:(Sub.rwB w Q).rw n=([],n):=if_neg hn
 rw[apRow_un e]
 unfold nrm
 rw[if_neg n0,srt_id]
 exact sd_of_ri (by rw[labs_apFs];exact hr)
theorem put_lv{G:Ctx}{A:Ab}{v x:Int}{Q:List Fd×Int}(hx:Lv G A x)(hne:x≠v):Lv G (A.put (.rwB v Q)).2 x:=live_put hx hne (fun _ _=>rfl) (fun _ _=>rfl) (fun _ h=>if_neg h)
section
variable {g:Int→Int} {G H:Ctx} {A B:Ab} {k:Int} {C:List UInt8→Prop} {Q P:List Fd×Int}
theorem sim_both_sw{n n':Int}{La Lb:List (List UInt8)}(h:Fresh true g G A H B k Q P n n' La Lb):SimO true g G A H B (bothA A Q.2 P.2 n Q.1 P.1) (bothA B (g P.2) (g Q.2) n' (renFs g P.1) (renFs g Q.1)):=by
 have la:=lv_of_rw h.s.oa h.ga h.na
 have lb:=lv_of_rw h.s.oa h.gb h.nb
 obtain⟨a1,a2⟩:=h.s.lv _ la
 obtain⟨b1,b2⟩:=h.s.lv _ lb
 have hgab:g Q.2≠g P.2:=fun e=>h.ab (h.s.inj _ _ la lb e)
 obtain⟨qa0,ga0⟩:=h.s.pos la
 obtain⟨qb0,gb0⟩:=h.s.pos lb
 have fA1:=apRow_fix h.s.oa.so P.1 n
 have fA2:=apRow_fix h.s.oa.so Q.1 n
 have fB1:=apRow_fix h.s.ob.so (renFs g P.1) n'
 have fB2:=apRow_fix h.s.ob.so (renFs g Q.1) n'
 have wA1:=apRow_wf h.s.oa.sw h.wp h.rp
 have wA2:=apRow_wf h.s.oa.sw h.wq h.rq
 have wB1:=apRow_wf h.s.ob.sw h.wp' h.rp'
 have wB2:=apRow_wf h.s.ob.sw h.wq' h.rq'
 rw[h.ep] at fA1 wA1
 rw[h.eq] at fA2 wA2
 rw[h.ep'] at fB1 wB1
 rw[h.eq'] at fB2 wB2
 have n0':n'≠0:=by rw[← h.gn];exact h.s.nz _ h.n0
 have vn:∀ {F:List Fd},(renFs g F,n')=renR g (F,n):=fun{F}=>by rw[renR_ne g (by exact h.n0),h.gn]
 -- which stands within which
 have oα:occR (g Q.2) (renFs g P.1,n')=occR Q.2 (P.1,n):=by rw[vn];exact occR_ren h.s la fA1 wA1.1 wA1.2.2.2
 have oβ:occR (g P.2) (renFs g Q.1,n')=occR P.2 (Q.1,n):=by rw[vn];exact occR_ren h.s lb fA2 wA2.1 wA2.2.2.2
 have oγ:occR (g Q.2) (renFs g Q.1,n')=occR Q.2 (Q.1,n):=by rw[vn];exact occR_ren h.s la fA2 wA2.1 wA2.2.2.2
 have oδ:occR (g P.2) (renFs g P.1,n')=occR P.2 (P.1,n):=by rw[vn];exact occR_ren h.s lb fA1 wA1.1 wA1.2.2.2
 have o2A:occR P.2 (apRow (.rwB Q.2 (P.1,n)) Q.1 n)=(occR P.2 (Q.1,n)||(occR Q.2 (Q.1,n)&&occR P.2 (P.1,n))):=occRow_rw h.ga h.ab fA2 h.wq
 have o2B:occR (g Q.2) (apRow (.rwB (g P.2) (renFs g Q.1,n')) (renFs g P.1) n')=(occR Q.2 (P.1,n)||(occR P.2 (P.1,n)&&occR Q.2 (Q.1,n))):=by
  rw[occRow_rw (b1.trans h.gb) (Ne.symm hgab) fB1 h.wp',oα,oδ,oγ]
 have okA:(Sub.rwB Q.2 (P.1,n)).ok:=if_neg (Ne.symm qa0)
 have okB:(Sub.rwB (g P.2) (renFs g Q.1,n')).ok:=if_neg (Ne.symm gb0)
 -- the first step of each
 have rA:restA A Q.2 P.1 n=if occR Q.2 (P.1,n)=true then (26,A)else A.put (.rwB Q.2 (P.1,n)):=by unfold restA;rw[h.ep]
 have rB:restA B (g P.2) (renFs g Q.1) n'=if occR P.2 (Q.1,n)=true then (26,B)else B.put (.rwB (g P.2) (renFs g Q.1,n')):=by unfold restA;rw[h.eq',oβ]
 have rA2:restA (A.put (.rwB Q.2 (P.1,n))).2 P.2 Q.1 n=if (occR P.2 (Q.1,n)||(occR Q.2 (Q.1,n)&&occR P.2 (P.1,n)))=true then (26,(A.put (.rwB Q.2 (P.1,n))).2)else (A.put (.rwB Q.2 (P.1,n))).2.put (.rwB P.2 (apRow (.rwB Q.2 (P.1,n)) Q.1 n)):=by
  unfold restA
  have e:apRow (A.put (.rwB Q.2 (P.1,n))).2.s Q.1 n=apRow (.rwB Q.2 (P.1,n)) Q.1 n:=by
   show apRow (cmp _ A.s) Q.1 n=_
   rw[← apRow_cmp _ _ okA,h.eq]
  rw[e,o2A]
 have rB2:restA (B.put (.rwB (g P.2) (renFs g Q.1,n'))).2 (g Q.2) (renFs g P.1) n'=if (occR Q.2 (P.1,n)||(occR P.2 (P.1,n)&&occR Q.2 (Q.1,n)))=true then (26,(B.put (.rwB (g P.2) (renFs g Q.1,n'))).2)else (B.put (.rwB (g P.2) (renFs g Q.1,n'))).2.put (.rwB (g Q.2) (apRow (.rwB (g P.2) (renFs g Q.1,n')) (renFs g P.1) n')):=by
  unfold restA
  have e:apRow (B.put (.rwB (g P.2) (renFs g Q.1,n'))).2.s (renFs g P.1) n'=apRow (.rwB (g P.2) (renFs g Q.1,n')) (renFs g P.1) n':=by
   show apRow (cmp _ B.s) (renFs g P.1) n'=_
   rw[← apRow_cmp _ _ okB,h.ep']
  rw[e,o2B]
 have g3:∀ {X:Ab} {u:Sub},(X.put u).1≠0→(X.put u).1=3:=fun{X u} hne=>(grown_cases _).resolve_left hne
 unfold bothA
 rw[rA]
 by_cases cα:occR Q.2 (P.1,n)=true
 ·rw[if_pos cα,if_pos (by simp),rB]
  refine .inr (.inl ⟨by simp,?_,by simp⟩)
  by_cases cβ:occR P.2 (Q.1,n)=true
  ·rw[if_pos cβ,if_pos (by simp)];simp
  ·rw[if_neg cβ]
   by_cases c1:(B.put (.rwB (g P.2) (renFs g Q.1,n'))).1≠0
   ·rw[if_pos c1];exact c1
   ·rw[if_neg c1,rB2,cα,Bool.true_or,if_pos rfl];simp
 ·rw[if_neg cα]
  have fα:occR Q.2 (P.1,n)=false:=by simpa using cα
  have bdA:=rwB_bd h.s.oa h.ga h.na fA1 wA1.1 wA1.2 fα
  by_cases c1:(A.put (.rwB Q.2 (P.1,n))).1≠0
  ·rw[if_pos c1];exact .inl ⟨rfl,.inl (g3 c1)⟩
  ·rw[if_neg c1,rA2]
   by_cases c2:(occR P.2 (Q.1,n)||(occR Q.2 (Q.1,n)&&occR P.2 (P.1,n)))=true
   ·rw[if_pos c2,rB]
    refine .inr (.inl ⟨by simp,?_,by simp⟩)
    by_cases cβ:occR P.2 (Q.1,n)=true
    ·rw[if_pos cβ,if_pos (by simp)];simp
    ·rw[if_neg cβ]
     by_cases c3:(B.put (.rwB (g P.2) (renFs g Q.1,n'))).1≠0
     ·rw[if_pos c3];exact c3
     ·have fβ:occR P.2 (Q.1,n)=false:=by simpa using cβ
      rw[fβ,Bool.false_or,Bool.and_comm] at c2
      rw[if_neg c3,rB2,c2,Bool.or_true,if_pos rfl];simp
   ·rw[if_neg c2]
    have f2:(occR P.2 (Q.1,n)||(occR Q.2 (Q.1,n)&&occR P.2 (P.1,n)))=false:=by simpa using c2
    obtain⟨fβ,fγδ⟩:=Bool.or_eq_false_iff.1 f2
    rw[fβ,if_neg (by simp)] at rB
    rw[rB]
    have bdB:=rwB_bd h.s.ob (b1.trans h.gb) b2.2.2.2 fB2 wB2.1 wB2.2 (by rw[oβ];exact fβ)
    by_cases c3:(B.put (.rwB (g P.2) (renFs g Q.1,n'))).1≠0
    ·rw[if_pos c3];exact .inl ⟨rfl,.inr (g3 c3)⟩
    ·have f3:(occR Q.2 (P.1,n)||(occR P.2 (P.1,n)&&occR Q.2 (Q.1,n)))=false:=by rw[fα,Bool.false_or,Bool.and_comm];exact fγδ
     rw[if_neg c3,rB2,f3,if_neg (by simp)]
     -- both bound in each
     have oA2:=(bd_adv h.s.oa bdA).1.ok
     have oB2:=(bd_adv h.s.ob bdB).1.ok
     have qA2:apRow (A.put (.rwB Q.2 (P.1,n))).2.s Q.1 n=apRow (.rwB Q.2 (P.1,n)) Q.1 n:=by
      show apRow (cmp _ A.s) Q.1 n=_
      rw[← apRow_cmp _ _ okA,h.eq]
     have qB2:apRow (B.put (.rwB (g P.2) (renFs g Q.1,n'))).2.s (renFs g P.1) n'=apRow (.rwB (g P.2) (renFs g Q.1,n')) (renFs g P.1) n':=by
      show apRow (cmp _ B.s) (renFs g P.1) n'=_
      rw[← apRow_cmp _ _ okB,h.ep']
     have fixA2:=apRow_fix oA2.so Q.1 n
     have wfA2:=apRow_wf oA2.sw h.wq h.rq
     have fixB2:=apRow_fix oB2.so (renFs g P.1) n'
     have wfB2:=apRow_wf oB2.sw h.wp' h.rp'
     rw[qA2] at fixA2 wfA2
     rw[qB2] at fixB2 wfB2
     have nbA2:(A.put (.rwB Q.2 (P.1,n))).2.s.rw P.2=([],P.2):=(put_lv lb (Ne.symm h.ab)).2.2.2
     have nbB2:(B.put (.rwB (g P.2) (renFs g Q.1,n'))).2.s.rw (g Q.2)=([],g Q.2):=(put_lv a2 hgab).2.2.2
     have bdA2:=rwB_bd oA2 h.gb nbA2 fixA2 wfA2.1 wfA2.2 (by rw[o2A];exact f2)
     have bdB2:=rwB_bd oB2 (a1.trans h.ga) nbB2 fixB2 wfB2.1 wfB2.2 (by rw[o2B];exact f3)
     have eQ:=apRow_new (w:=Q.2) (Q:=(P.1,n)) (l:=Q.1) h.rq.1 h.lna h.n0
     have hn':n'≠g P.2:=fun e=>by
      have hnA:Lv G A n:=by
       have hh:A.s.rw n=([],n):=fA1.2.1
       rcases h.rp.2.2 with c|⟨_,L,c,_⟩
       ·exact absurd c h.n0
       ·exact lv_of_rw h.s.oa c hh
      exact h.lnb (h.s.inj _ _ hnA lb (h.gn.trans e))
     have eP:=apRow_new (w:=g P.2) (Q:=(renFs g Q.1,n')) (l:=renFs g P.1) h.rp'.1 hn' n0'
     have hn2:n'≠g Q.2:=fun e=>by
      have hnA:Lv G A n:=by
       have hh:A.s.rw n=([],n):=fA1.2.1
       rcases h.rp.2.2 with c|⟨_,L,c,_⟩
       ·exact absurd c h.n0
       ·exact lv_of_rw h.s.oa c hh
      exact h.lna (h.s.inj _ _ hnA la (h.gn.trans e))
     rw[eQ] at bdA2 ⊢
     rw[eP] at bdB2 ⊢
     by_cases c4:((A.put (.rwB Q.2 (P.1,n))).2.put (.rwB P.2 (apFs (.rwB Q.2 (P.1,n)) Q.1,n))).1≠0
     ·exact .inl ⟨rfl,.inl (g3 c4)⟩
     by_cases c5:((B.put (.rwB (g P.2) (renFs g Q.1,n'))).2.put (.rwB (g Q.2) (apFs (.rwB (g P.2) (renFs g Q.1,n')) (renFs g P.1),n'))).1≠0
     ·exact .inl ⟨rfl,.inr (g3 c5)⟩
     have okA2:(Sub.rwB P.2 (apFs (.rwB Q.2 (P.1,n)) Q.1,n)).ok:=if_neg (Ne.symm qb0)
     have okB2:(Sub.rwB (g Q.2) (apFs (.rwB (g P.2) (renFs g Q.1,n')) (renFs g P.1),n')).ok:=if_neg (Ne.symm ga0)
     have xγ:occR Q.2 (Q.1,n)=occFs Q.2 Q.1:=by unfold occR;rw[beq_eq_false_iff_ne.2 (show(Q.1,n).2≠Q.2 from h.lna)];rfl
     have xδ:occR P.2 (P.1,n)=occFs P.2 P.1:=by unfold occR;rw[beq_eq_false_iff_ne.2 (show(P.1,n).2≠P.2 from h.lnb)];rfl
     rw[xγ,xδ] at fγδ
     have k1:apFs (.rwB (g P.2) (renFs g Q.1,n')) (renFs g P.1)=renFs g (apFs (.rwB P.2 (apFs (.rwB Q.2 (P.1,n)) Q.1,n)) P.1):=by
      cases e:occFs P.2 P.1 with
      | false=>rw[apFs_out fA1.1 e,apFs_out fB1.1 (by rw[occFs_ren h.s lb fA1.1 h.wp];exact e)]
      | true =>
       rw[e,Bool.and_true] at fγδ
       rw[apFs_out fA2.1 fγδ,vn]
       exact renFs_ap (corr_rw h.s lb) fA1.1 h.wp
     have k2:apFs (.rwB (g Q.2) (apFs (.rwB (g P.2) (renFs g Q.1,n')) (renFs g P.1),n')) (renFs g Q.1)=renFs g (apFs (.rwB Q.2 (P.1,n)) Q.1):=by
      cases e:occFs Q.2 Q.1 with
      | false=>rw[apFs_out fA2.1 e,apFs_out fB2.1 (by rw[occFs_ren h.s la fA2.1 h.wq];exact e)]
      | true =>
       rw[e,Bool.true_and] at fγδ
       rw[apFs_out fB1.1 (by rw[occFs_ren h.s lb fA1.1 h.wp];exact fγδ),vn]
       exact renFs_ap (corr_rw h.s la) fA2.1 h.wq
     have hc:Corr G A.s g g (cmp (.rwB P.2 (apFs (.rwB Q.2 (P.1,n)) Q.1,n)) (.rwB Q.2 (P.1,n))) (cmp (.rwB (g Q.2) (apFs (.rwB (g P.2) (renFs g Q.1,n')) (renFs g P.1),n')) (.rwB (g P.2) (renFs g Q.1,n'))):=by
      refine⟨fun x hx hn=>?_,fun p hp hn=>rfl,fun x k' L' hx hn=>?_,h.s.nz,(cmp_cmp_ap _ _ .one okA2 okA).2,(cmp_cmp_ap _ _ .one okB2 okB).2⟩
      ·rw[cmp_ty,cmp_ty]
       show ap _ (.var (g x))=ren g (ap _ (.var x))
       rw[ap_var,ap_var]
       show TyT.var (g x)=ren g (.var x)
       rw[ren_var]
      ·have lx:=lv_of_rw h.s.oa hx hn
       rw[cmp_rw,cmp_rw]
       by_cases xa:x=Q.2
       ·subst xa
        have e1:(Sub.rwB Q.2 (P.1,n)).rw Q.2=(P.1,n):=if_pos rfl
        have e2:(Sub.rwB (g P.2) (renFs g Q.1,n')).rw (g Q.2)=([],g Q.2):=if_neg hgab
        have e3:(Sub.rwB P.2 (apFs (.rwB Q.2 (P.1,n)) Q.1,n)).rw n=([],n):=if_neg h.lnb
        have e4:(Sub.rwB (g Q.2) (apFs (.rwB (g P.2) (renFs g Q.1,n')) (renFs g P.1),n')).rw (g Q.2)=(apFs (.rwB (g P.2) (renFs g Q.1,n')) (renFs g P.1),n'):=if_pos rfl
        rw[e1,e2]
        dsimp only
        rw[e3,e4,apFs,List.nil_append,List.append_nil,k1]
        dsimp only
        rw[vn]
       ·by_cases xb:x=P.2
        ·subst xb
         have e1:(Sub.rwB Q.2 (P.1,n)).rw P.2=([],P.2):=if_neg (Ne.symm h.ab)
         have e2:(Sub.rwB (g P.2) (renFs g Q.1,n')).rw (g P.2)=(renFs g Q.1,n'):=if_pos rfl
         have e3:(Sub.rwB P.2 (apFs (.rwB Q.2 (P.1,n)) Q.1,n)).rw P.2=(apFs (.rwB Q.2 (P.1,n)) Q.1,n):=if_pos rfl
         have e4:(Sub.rwB (g Q.2) (apFs (.rwB (g P.2) (renFs g Q.1,n')) (renFs g P.1),n')).rw n'=([],n'):=if_neg hn2
         rw[e1,e2]
         dsimp only
         rw[e3,e4,apFs,List.nil_append,List.append_nil,k2]
         dsimp only
         rw[vn]
        ·have e1:(Sub.rwB Q.2 (P.1,n)).rw x=([],x):=if_neg xa
         have e2:(Sub.rwB (g P.2) (renFs g Q.1,n')).rw (g x)=([],g x):=if_neg (fun c=>xb (h.s.inj _ _ lx lb c))
         have e3:(Sub.rwB P.2 (apFs (.rwB Q.2 (P.1,n)) Q.1,n)).rw x=([],x):=if_neg xb
         have e4:(Sub.rwB (g Q.2) (apFs (.rwB (g P.2) (renFs g Q.1,n')) (renFs g P.1),n')).rw (g x)=([],g x):=if_neg (fun c=>xa (h.s.inj _ _ lx la c))
         rw[e1,e2]
         dsimp only
         rw[e3,e4,apFs,apFs,renR_ne g (show(([]:List Fd)++[],x).2≠0 from (h.s.pos lx).1)]
         rfl
     have tr:Tr G g A B g ((A.put (.rwB Q.2 (P.1,n))).2.put (.rwB P.2 (apFs (.rwB Q.2 (P.1,n)) Q.1,n))).2 ((B.put (.rwB (g P.2) (renFs g Q.1,n'))).2.put (.rwB (g Q.2) (apFs (.rwB (g P.2) (renFs g Q.1,n')) (renFs g P.1),n'))).2 :=
      tr_of h.s.oa hc (cmp_assoc _ _ A.s okA2) (cmp_assoc _ _ B.s okB2)
     refine .inr (.inr ⟨Decidable.not_not.1 c4,Decidable.not_not.1 c5,g,G,H,⟨(bd_adv oA2 bdA2).1.ok,(bd_adv oB2 bdB2).1.ok,h.s.nz,fun x hx=>?_,fun x y hx hy e=>?_,tr.t A.a _ h.s.oa.wa h.s.va,tr.t A.b _ h.s.oa.wb h.s.vb⟩,tr,.refl G,.refl H⟩)
     ·obtain⟨x1,x2⟩:=bd_live oA2 bdA2 hx
      obtain⟨x3,x4⟩:=bd_live h.s.oa bdA x1
      obtain⟨x5,x6⟩:=h.s.lv x x3
      exact⟨x5,put_lv (put_lv x6 (fun c=>x2 (h.s.inj _ _ x3 lb c))) (fun c=>x4 (h.s.inj _ _ x3 la c))⟩
     ·exact h.s.inj x y (bd_live h.s.oa bdA (bd_live oA2 bdA2 hx).1).1 (bd_live h.s.oa bdA (bd_live oA2 bdA2 hy).1).1 e
end
theorem renFs_len(g:Int→Int)(l:List Fd):(renFs g l).length=l.length:=by rw[renFs_map,List.length_map]
def sws{α β:Type}(sw:Bool)(f:α→α→β)(x y:α):β:=if sw then f y x else f x y
section
variable {sw:Bool} {g:Int→Int} {G H:Ctx} {A B:Ab} {k:Int} {C:List UInt8→Prop} {Q P:List Fd×Int}
theorem restsA_both{A:Ab}{a b:Int}{o1 o2:List Fd}(hab:a≠b)(ha:a≠0)(hb:b≠0)(hl:o1.length+o2.length≠0):restsA A a b o1 o2=bothA { A with most:=A.most+1 } a b (A.most+1) o1 o2:=by
 unfold restsA bothA
 rw[if_neg hab,if_neg ha,if_neg hb,if_neg hl]
theorem sim_rests(h:Rst sw g G A H B k C Q P):SimO sw g G A H B (restsA A Q.2 P.2 Q.1 P.1) (sws sw (fun q p:List Fd×Int=>restsA B q.2 p.2 q.1 p.1) (renR g Q) (renR g P)):=by
 have hlen:(renR g Q).1.length=Q.1.length∧(renR g P).1.length=P.1.length:=⟨renFs_len g Q.1,renFs_len g P.1⟩
 have z0:∀ {R:List Fd×Int},R.2=0→(renR g R).2=0:=fun{R} e=>by unfold renR;rw[if_pos e]
 have z1:∀ {R:List Fd×Int},R.2≠0→(renR g R).2≠0:=fun{R} e=>by rw[renR_ne g e];exact h.s.nz _ e
 have en:∀ {R:List Fd×Int} {l:List UInt8→Prop},EndR G k l R.2→FixR A.s R→R.2≠0→∃ L,G R.2 = .rw k L∧Lv G A R.2∧Ri L∧∀ x,x ∈ L↔l x:=fun{R l} e f n0=>by
  rcases e with c|⟨_,L,c1,c2,c3⟩
  ·exact absurd c n0
  ·exact⟨L,c1,lv_of_rw h.s.oa c1 f.2.1,c2,c3⟩
 by_cases hab:Q.2=P.2
 ·have hab':(renR g Q).2=(renR g P).2:=by unfold renR;rw[hab]
  have key:∀ {A:Ab} {a b:Int} {o1 o2:List Fd},a=b→restsA A a b o1 o2=if 0<a∧o1.length+o2.length≠0 then (25,A)else (0,A):=fun{A a b o1 o2} e=>by unfold restsA;rw[if_pos e]
  have hB:sws sw (fun q p:List Fd×Int=>restsA B q.2 p.2 q.1 p.1) (renR g Q) (renR g P)=if 0<Q.2∧Q.1.length+P.1.length≠0 then (25,B)else (0,B):=by
   have hpos:0<(renR g Q).2↔0<Q.2:=by
    by_cases e:Q.2=0
    ·rw[z0 e,e]
    ·obtain⟨L,e1,e2,_⟩:=en h.t.rq.2.2 h.fq e
     have h1:=h.s.oa.pos Q.2 e2.1
     have h2:=h.s.ob.pos _ (h.s.lv _ e2).2.1
     rw[renR_ne g e]
     dsimp only
     constructor <;> intro <;> omega
   cases sw
   ·show restsA B _ _ _ _=_
    rw[key hab',hlen.1,hlen.2]
    simp only[hpos]
   ·show restsA B _ _ _ _=_
    rw[key hab'.symm,hlen.1,hlen.2,← hab',Nat.add_comm]
    simp only[hpos]
  rw[key hab,hB]
  split
  ·exact .bad (by decide)
  ·exact .stay h.s
 ·have hab':(renR g Q).2≠(renR g P).2:=fun e=>by
   by_cases e1:Q.2=0
   ·by_cases e2:P.2=0
    ·exact hab (e1.trans e2.symm)
    ·rw[z0 e1] at e;exact z1 e2 e.symm
   ·by_cases e2:P.2=0
    ·rw[z0 e2] at e;exact z1 e1 e
    ·obtain⟨_,_,l1,_⟩:=en h.t.rq.2.2 h.fq e1
     obtain⟨_,_,l2,_⟩:=en h.t.rp.2.2 h.fp e2
     rw[renR_ne g e1,renR_ne g e2] at e
     exact hab (h.s.inj _ _ l1 l2 e)
  by_cases hq:Q.2=0
  ·have hp:P.2≠0:=fun e=>hab (hq.trans e.symm)
   have s:=sim_closed h hq hp
   have eA:restsA A Q.2 P.2 Q.1 P.1=restA A P.2 Q.1 0:=by unfold restsA;rw[if_neg hab,if_pos hq]
   have eB:sws sw (fun q p:List Fd×Int=>restsA B q.2 p.2 q.1 p.1) (renR g Q) (renR g P)=restA B (renR g P).2 (renR g Q).1 0:=by
    cases sw
    ·show restsA B _ _ _ _=_
     unfold restsA;rw[if_neg hab',if_pos (z0 hq)]
    ·show restsA B _ _ _ _=_
     unfold restsA;rw[if_neg (Ne.symm hab'),if_neg (z1 hp),if_pos (z0 hq)]
   rw[eA,eB];exact s
  ·by_cases hp:P.2=0
   ·have s:=sim_closed h.symm hp hq
    have eA:restsA A Q.2 P.2 Q.1 P.1=restA A Q.2 P.1 0:=by unfold restsA;rw[if_neg hab,if_neg hq,if_pos hp]
    have eB:sws sw (fun q p:List Fd×Int=>restsA B q.2 p.2 q.1 p.1) (renR g Q) (renR g P)=restA B (renR g Q).2 (renR g P).1 0:=by
     cases sw
     ·show restsA B _ _ _ _=_
      unfold restsA;rw[if_neg hab',if_neg (z1 hq),if_pos (z0 hp)]
     ·show restsA B _ _ _ _=_
      unfold restsA;rw[if_neg (Ne.symm hab'),if_pos (z0 hp)]
    rw[eA,eB];exact s
   ·obtain⟨La,a1,l1,a2,a3⟩:=en h.t.rq.2.2 h.fq hq
    obtain⟨Lb,b1,l2,b2,b3⟩:=en h.t.rp.2.2 h.fp hp
    by_cases hl:Q.1.length+P.1.length=0
    ·have q1:Q.1=[]:=List.eq_nil_of_length_eq_zero (by omega)
     have p1:P.1=[]:=List.eq_nil_of_length_eq_zero (by omega)
     have eA:restsA A Q.2 P.2 Q.1 P.1=restA A Q.2 [] P.2:=by unfold restsA;rw[if_neg hab,if_neg hq,if_neg hp,if_pos hl]
     have hLL:La=Lb:=by
      have hm:∀ x,x ∈ La↔x ∈ Lb:=fun x=>by rw[a3 x,b3 x,q1,p1]
      have key:∀ {l m:List (List UInt8)},Ri l→Ri m→(∀ x,x ∈ l↔x ∈ m)→l=m:=by
       intro l
       induction l with
       | nil=>intro m _ _ h;cases m with
        | nil=>rfl
        | cons y m=>exact absurd ((h y).2 (by simp)) (by simp)
       | cons x l ih =>
        intro m h1 h2 h
        cases m with
        | nil=>exact absurd ((h x).1 (by simp)) (by simp)
        | cons y m =>
         have h1':=List.pairwise_cons.1 h1
         have h2':=List.pairwise_cons.1 h2
         have e:x=y:=by
          rcases List.mem_cons.1 ((h x).1 (by simp))with c|c
          ·exact c
          ·rcases List.mem_cons.1 ((h y).2 (by simp))with c' | c'
           ·exact c'.symm
           ·have:=ltB_asym (h1'.1 y c')
            rw[h2'.1 x c] at this;cases this
         subst e
         rw[ih h1'.2 h2'.2 (fun z=>by
          constructor
          ·intro hz
           rcases List.mem_cons.1 ((h z).1 (by simp[hz]))with c|c
           ·subst c;have:=h1'.1 z hz;rw[ltB_irrefl] at this;cases this
           ·exact c
          ·intro hz
           rcases List.mem_cons.1 ((h z).2 (by simp[hz]))with c|c
           ·subst c;have:=h2'.1 z hz;rw[ltB_irrefl] at this;cases this
           ·exact c)]
      exact key a2 b2 hm
     subst hLL
     cases sw
     ·have eB:sws false (fun q p:List Fd×Int=>restsA B q.2 p.2 q.1 p.1) (renR g Q) (renR g P)=restA B (g Q.2) [] (g P.2):=by
       show restsA B _ _ _ _=_
       unfold restsA;rw[if_neg hab',if_neg (z1 hq),if_neg (z1 hp),if_pos (by rw[hlen.1,hlen.2];exact hl),renR_ne g hq,renR_ne g hp]
      rw[eA,eB]
      have rowr:∀ {G:Ctx} {A:Ab} {v:Int},AOk G A→G v = .rw k La→RowOk G k (· ∈ La) [] v:=fun{G A v} h e=>⟨.nil,(fun f hf=>by cases hf),end_self h.pos h.ri e⟩
      obtain⟨c1,c2⟩:=h.s.lv _ l2
      exact sim_rw h.s a1 l1.2.2.2 trivial (rowr h.s.oa b1) trivial (rowr h.s.ob (c1.trans b1)) (by rw[apRow_self l2.2.2.2,apRow_self c2.2.2.2,renR_ne g (show(([]:List Fd),P.2).2≠0 from hp)];rfl)
     ·have eB:sws true (fun q p:List Fd×Int=>restsA B q.2 p.2 q.1 p.1) (renR g Q) (renR g P)=restA B (g P.2) [] (g Q.2):=by
       show restsA B _ _ _ _=_
       unfold restsA;rw[if_neg (Ne.symm hab'),if_neg (z1 hp),if_neg (z1 hq),if_pos (by rw[hlen.1,hlen.2];omega),renR_ne g hq,renR_ne g hp]
      rw[eA,eB]
      exact sim_rw_flip h.s a1 b1 l1.2.2.2 l2.2.2.2 hab
    ·obtain⟨g1,G1,H1,La',Lb',F,T,le1,le2,q2,p2,q3,p3⟩:=fresh_of h hq hp hab
     have eA:=restsA_both (A:=A) hab hq hp hl
     rw[eA]
     cases sw
     ·have eB:sws false (fun q p:List Fd×Int=>restsA B q.2 p.2 q.1 p.1) (renR g Q) (renR g P)=bothA { B with most:=B.most+1 } (g1 Q.2) (g1 P.2) (B.most+1) (renFs g1 Q.1) (renFs g1 P.1):=by
       rw[q2,p2,q3,p3]
       exact restsA_both hab' (z1 hq) (z1 hp) (by rw[hlen.1,hlen.2];exact hl)
      rw[eB]
      exact(sim_both F).after T le1 le2
     ·have eB:sws true (fun q p:List Fd×Int=>restsA B q.2 p.2 q.1 p.1) (renR g Q) (renR g P)=bothA { B with most:=B.most+1 } (g1 P.2) (g1 Q.2) (B.most+1) (renFs g1 P.1) (renFs g1 Q.1):=by
       rw[q2,p2,q3,p3]
       exact restsA_both (Ne.symm hab') (z1 hp) (z1 hq) (by rw[hlen.1,hlen.2];omega)
      rw[eB]
      exact(sim_both_sw F).after T le1 le2
end
theorem lsOf_comm(F G:List Fd):lsOf F G=lsOf G F:=ri_ext (lsOf_ri F G) (lsOf_ri G F) (fun x=>by rw[lsOf_mem,lsOf_mem,or_comm])
theorem lsOf_ren(g:Int→Int)(F G:List Fd):lsOf (renFs g F) (renFs g G)=lsOf F G:=ri_ext (lsOf_ri _ _) (lsOf_ri _ _) (fun x=>by rw[lsOf_mem,lsOf_mem,labs_ren,labs_ren])
theorem fnd_ren(g:Int→Int)(x:List UInt8):∀ l:List Fd,fnd x (renFs g l)=(fnd x l).map (renF g)
 | []=>rfl
 | f::l=>by
  unfold fnd
  rw[renFs,List.find?_cons,List.find?_cons,renF_lb]
  cases h:f.lb==x
  ·exact fnd_ren g x l
  ·rfl
theorem only_ren(g:Int→Int)(F G:List Fd):∀ ls,onlyL (renFs g F) (renFs g G) ls=renFs g (onlyL F G ls)
 | []=>rfl
 | x::ls=>by
  rw[onlyL,onlyL,fnd_ren,fnd_ren,only_ren g F G ls]
  cases fnd x F with
  | none=>rfl
  | some f=>cases fnd x G <;> rfl
section
variable {sw:Bool} {g:Int→Int} {G H:Ctx} {A B:Ab}
theorem sim_abs(h:Sim sw g G A H B){f f':Fd}(hf:WfF G f)(hv:apF B.s f'=renF g (apF A.s f)):SimO sw g G A H B (absA A f) (absA B f'):=by
 have e1:(apF B.s f').pr=(apF A.s f).pr:=by rw[hv,renF_pr]
 unfold absA
 rw[e1]
 by_cases c1:(apF A.s f).pr=1
 ·rw[if_pos c1,if_pos c1];exact .bad (by decide)
 ·rw[if_neg c1,if_neg c1]
  by_cases c2:(apF A.s f).pr=2
  ·rw[if_pos c2,if_pos c2]
   have e2:(apF B.s f').p=g (apF A.s f).p:=by
    rw[hv]
    generalize apF A.s f=F at *
    obtain⟨lb,pr,p,t⟩:=F
    rw[renF]
    exact if_pos c2
   have wF:=wfF_pre (apF_wf h.oa.sw hf)
   have fF:=fixF_pre (apF_fix h.oa.so f) c2
   rcases wF with⟨c,_⟩| ⟨c,_⟩| ⟨_,_,c,_⟩
   ·omega
   ·omega
   ·rw[e2];exact sim_pr h c fF (.inl rfl) (fun e=>by cases e)
  ·rw[if_neg c2,if_neg c2];exact .stay h
theorem sim_pres(h:Sim sw g G A H B){F K:Fd}(wF:WfF G F)(wK:WfF G K)(fF:FixF A.s F)(fK:FixF A.s K):SimO sw g G A H B (presA A F K) (sws sw (presA B) (renF g F) (renF g K)):=by
 have pr:=fun X:Fd=>renF_pr g X
 have pp:∀ X:Fd,(renF g X).p=if X.pr=2 then g X.p else X.p:=fun X=>by obtain⟨lb,pr,p,t⟩:=X;rfl
 have lv:∀ {X:Fd},WfF G X→FixF A.s X→X.pr=2→G X.p = .pr∧A.s.pr X.p=(2,X.p)∧Lv G A X.p:=fun{X} w f e=>by
  rcases wfF_pre w with⟨c,_⟩| ⟨c,_⟩| ⟨_,_,c,_⟩
  ·omega
  ·omega
  ·exact⟨c,fixF_pre f e,lv_of_pr h.oa c (fixF_pre f e)⟩
 have wo:∀ {X:Fd},WfF G X→X.pr≠2→(X.pr,X.p)=((0,0):Int×Int)∨(X.pr,X.p)=((1,0):Int×Int):=fun{X} w e=>by
  rcases wfF_pre w with⟨c1,c2,_⟩| ⟨c1,c2,_⟩| ⟨c,_⟩
  ·rw[c1,c2];exact .inl rfl
  ·rw[c1,c2];exact .inr rfl
  ·exact absurd c e
 by_cases cF:F.pr=2
 ·obtain⟨f1,f2,f3⟩:=lv wF fF cF
  by_cases cK:K.pr=2
  ·obtain⟨k1,k2,k3⟩:=lv wK fK cK
   by_cases cp:F.p=K.p
   ·have eA:presA A F K=(0,A):=by unfold presA;rw[if_pos ⟨cF,cK,cp⟩]
    have eB:sws sw (presA B) (renF g F) (renF g K)=(0,B):=by
     cases sw
     ·show presA B _ _=_
      unfold presA;rw[if_pos ⟨(pr F).trans cF,(pr K).trans cK,by rw[pp,pp,if_pos cF,if_pos cK,cp]⟩]
     ·show presA B _ _=_
      unfold presA;rw[if_pos ⟨(pr K).trans cK,(pr F).trans cF,by rw[pp,pp,if_pos cF,if_pos cK,cp]⟩]
    rw[eA,eB];exact .stay h
   ·have hne:g F.p≠g K.p:=fun e=>cp (h.inj _ _ f3 k3 e)
    have eA:presA A F K=A.put (.prB F.p (2,K.p)):=by unfold presA;rw[if_neg (fun c=>cp c.2.2),if_pos cF,cK]
    rw[eA]
    cases sw
    ·have eB:sws false (presA B) (renF g F) (renF g K)=B.put (.prB (g F.p) (renP g (2,K.p))):=by
      show presA B _ _=_
      unfold presA
      rw[pr,pr,pp,pp,if_pos cF,if_pos cK,if_neg (fun c=>hne c.2.2),if_pos cF,cK];rfl
     rw[eB]
     exact sim_pr h f1 f2 (.inr (.inr ⟨rfl,h.oa.pos _ k3.1,k1⟩)) (fun _=>⟨Ne.symm cp,k2⟩)
    ·have eB:sws true (presA B) (renF g F) (renF g K)=B.put (.prB (g K.p) (2,g F.p)):=by
      show presA B _ _=_
      unfold presA
      rw[pr,pr,pp,pp,if_pos cF,if_pos cK,if_neg (fun c=>hne c.2.2.symm),if_pos cK,cF]
     rw[eB]
     exact sim_pr_flip h f1 k1 f2 k2 cp
  ·have eA:presA A F K=A.put (.prB F.p (K.pr,K.p)):=by unfold presA;rw[if_neg (fun c=>cK c.2.1),if_pos cF]
   have eB:sws sw (presA B) (renF g F) (renF g K)=B.put (.prB (g F.p) (renP g (K.pr,K.p))):=by
    have hP:renP g (K.pr,K.p)=(K.pr,K.p):=by unfold renP;rw[if_neg cK]
    rw[hP]
    cases sw
    ·show presA B _ _=_
     unfold presA
     rw[pr,pr,pp,pp,if_neg (fun c=>cK c.2.1),if_pos cF,if_pos cF,if_neg cK]
    ·show presA B _ _=_
     unfold presA
     rw[pr,pr,pp,pp,if_neg (fun c=>cK c.1),if_neg cK,if_pos cF,if_pos cF,if_neg cK]
   rw[eA,eB]
   exact sim_pr h f1 f2 ((wo wK cK).imp id .inl) (fun e=>absurd e cK)
 ·by_cases cK:K.pr=2
  ·obtain⟨k1,k2,k3⟩:=lv wK fK cK
   have eA:presA A F K=A.put (.prB K.p (F.pr,F.p)):=by unfold presA;rw[if_neg (fun c=>cF c.1),if_neg cF,if_pos cK]
   have eB:sws sw (presA B) (renF g F) (renF g K)=B.put (.prB (g K.p) (renP g (F.pr,F.p))):=by
    have hP:renP g (F.pr,F.p)=(F.pr,F.p):=by unfold renP;rw[if_neg cF]
    rw[hP]
    cases sw
    ·show presA B _ _=_
     unfold presA
     rw[pr,pr,pp,pp,if_neg (fun c=>cF c.1),if_neg cF,if_pos cK,if_pos cK,if_neg cF]
    ·show presA B _ _=_
     unfold presA
     rw[pr,pr,pp,pp,if_neg (fun c=>cF c.2.1),if_pos cK,if_pos cK,if_neg cF]
   rw[eA,eB]
   exact sim_pr h k1 k2 ((wo wF cF).imp id .inl) (fun e=>absurd e cF)
  ·have key:∀ (X:Ab) (a b:Fd),a.pr≠2→b.pr≠2→presA X a b=if a.pr≠b.pr then (25,X)else (0,X):=fun X a b ha hb=>by
    unfold presA;rw[if_neg (fun c=>ha c.1),if_neg ha,if_neg hb]
   have eB:sws sw (presA B) (renF g F) (renF g K)=if F.pr≠K.pr then (25,B)else (0,B):=by
    cases sw
    ·show presA B _ _=_
     rw[key B _ _ (by rw[pr];exact cF) (by rw[pr];exact cK),pr,pr]
    ·show presA B _ _=_
     rw[key B _ _ (by rw[pr];exact cK) (by rw[pr];exact cF),pr,pr]
     by_cases e:F.pr=K.pr
     ·rw[if_neg (by simpa using e.symm),if_neg (by simpa using e)]
     ·rw[if_pos (Ne.symm e),if_pos e]
   rw[key A F K cF cK,eB]
   split
   ·exact .bad (by decide)
   ·exact .stay h
end
def SiT(n:Nat):Prop:=∀ sw g G A H B x y x' y' r m q,Sim sw g G A H B→WfT G x→WfT G y→WfT H x'→WfT H y'→ap B.s x'=ren g (ap A.s x)→ap B.s y'=ren g (ap A.s y)→uni n A x y=some r→sws sw (uni m B) x' y'=some q→SimO sw g G A H B r q
def SiL(n:Nat):Prop:=∀ sw g G A H B x y x' y' r m q,Sim sw g G A H B→WfTs G x→WfTs G y→WfTs H x'→WfTs H y'→x.length=y.length→apTs B.s x'=renTs g (apTs A.s x)→apTs B.s y'=renTs g (apTs A.s y)→uniL n A x y=some r→sws sw (uniL m B) x' y'=some q→SimO sw g G A H B r q
def SiR(n:Nat):Prop:=∀ sw g G A H B k C a b a' b' r m q,Sim sw g G A H B→Two G k C a b→Two H k C a' b'→apRow B.s a'.1 a'.2=renR g (apRow A.s a.1 a.2)→apRow B.s b'.1 b'.2=renR g (apRow A.s b.1 b.2)→uniR n A a.1 a.2 b.1 b.2=some r→sws sw (fun a b:List Fd×Int=>uniR m B a.1 a.2 b.1 b.2) a' b'=some q→SimO sw g G A H B r q
def SiM(n:Nat):Prop:=∀ sw g G A H B a b a' b' ls r m q,Sim sw g G A H B→WfFs G a.1→WfFs G b.1→WfFs H a'.1→WfFs H b'.1→FV g A B a a'→FV g A B b b'→uniM n A a b ls=some r→sws sw (fun a b=>uniM m B a b ls) a' b'=some q→SimO sw g G A H B r q
def SiX(n:Nat):Prop:=∀ sw g G A H B a b a' b' x r m q,Sim sw g G A H B→WfFs G a.1→WfFs G b.1→WfFs H a'.1→WfFs H b'.1→FV g A B a a'→FV g A B b b'→uniX n A a b x=some r→sws sw (fun a b=>uniX m B a b x) a' b'=some q→SimO sw g G A H B r q
theorem sim_m{n:Nat}(hX:SiX n)(hM:SiM n):SiM (n+1):=by
 intro sw g G A H B a b a' b' ls r m q h wa wb wa' wb' va vb hr hq
 cases m with
 | zero=>cases sw <;>(rw[show sws _ _ a' b'=none from by unfold sws;simp[uniM]] at hq;cases hq)
 | succ m =>
  cases ls with
  | nil =>
   rw[uniM] at hr;cases hr
   cases sw <;>(unfold sws at hq;simp only[uniM] at hq;cases hq;exact .stay h)
  | cons x ls =>
   rw[uniM] at hr
   cases hu:uniX n A a b x with
   | none=>rw[hu] at hr;cases hr
   | some r1 =>
    rw[hu] at hr
    have hq2:∃ q1,sws sw (fun a b=>uniX m B a b x) a' b'=some q1∧(if q1.1≠0 then some q1 else sws sw (fun a b=>uniM m q1.2 a b ls) a' b')=some q:=by
     cases sw
     ·have hq:uniM (m+1) B a' b' (x::ls)=some q:=hq
      rw[uniM] at hq
      cases hv:uniX m B a' b' x with
      | none=>rw[hv] at hq;cases hq
      | some q1=>rw[hv] at hq;exact⟨q1,hv,hq⟩
     ·have hq:uniM (m+1) B b' a' (x::ls)=some q:=hq
      rw[uniM] at hq
      cases hv:uniX m B b' a' x with
      | none=>rw[hv] at hq;cases hq
      | some q1=>rw[hv] at hq;exact⟨q1,hv,hq⟩
    obtain⟨q1,hv,hq⟩:=hq2
    exact(hX sw g G A H B a b a' b' x r1 m q1 h wa wb wa' wb' va vb hu hv).then hr hq (fun g1 G1 H1 _ _ s t l l' hr hq=>hM sw g1 G1 r1.2 H1 q1.2 a b a' b' ls r m q s (wfFs_le l wa) (wfFs_le l wb) (wfFs_le l' wa') (wfFs_le l' wb') (va.tr t wa) (vb.tr t wb) hr hq)
theorem sim_l{n:Nat}(hT:SiT n)(hL:SiL n):SiL (n+1):=by
 intro sw g G A H B x y x' y' r m q h wx wy wx' wy' hlen vx vy hr hq
 have l1:x'.length=x.length:=by have:=congrArg List.length vx;rw[apTs_map,renTs_map,apTs_map,List.length_map,List.length_map,List.length_map] at this;exact this
 have l2:y'.length=y.length:=by have:=congrArg List.length vy;rw[apTs_map,renTs_map,apTs_map,List.length_map,List.length_map,List.length_map] at this;exact this
 cases m with
 | zero=>cases sw <;>(unfold sws at hq;simp[uniL] at hq)
 | succ m =>
  cases x with
  | nil =>
   have e2:y=[]:=List.eq_nil_of_length_eq_zero (by simpa using hlen.symm)
   subst e2
   have e3:x'=[]:=List.eq_nil_of_length_eq_zero l1
   have e4:y'=[]:=List.eq_nil_of_length_eq_zero l2
   subst e3 e4
   rw[uniL] at hr
   ·cases hr
    cases sw <;>(unfold sws at hq;simp only[uniL] at hq;cases hq;exact .stay h)
   ·simp
  | cons x l =>
   cases y with
   | nil=>cases hlen
   | cons y k =>
    cases x' with
    | nil=>cases l1
    | cons x' l' =>
     cases y' with
     | nil=>cases l2
     | cons y' k' =>
      rw[WfTs] at wx wy wx' wy'
      rw[apTs,apTs,renTs] at vx vy
      obtain⟨vx1,vx2⟩:=List.cons.inj vx
      obtain⟨vy1,vy2⟩:=List.cons.inj vy
      rw[uniL] at hr
      cases hu:uni n A x y with
      | none=>rw[hu] at hr;cases hr
      | some r1 =>
       rw[hu] at hr
       have hq2:∃ q1,sws sw (uni m B) x' y'=some q1∧(if q1.1≠0 then some q1 else sws sw (uniL m q1.2) l' k')=some q:=by
        cases sw
        ·have hq:uniL (m+1) B (x'::l') (y'::k')=some q:=hq
         rw[uniL] at hq
         cases hv:uni m B x' y' with
         | none=>rw[hv] at hq;cases hq
         | some q1=>rw[hv] at hq;exact⟨q1,hv,hq⟩
        ·have hq:uniL (m+1) B (y'::k') (x'::l')=some q:=hq
         rw[uniL] at hq
         cases hv:uni m B y' x' with
         | none=>rw[hv] at hq;cases hq
         | some q1=>rw[hv] at hq;exact⟨q1,hv,hq⟩
       obtain⟨q1,hv,hq⟩:=hq2
       refine(hT sw g G A H B x y x' y' r1 m q1 h wx.1 wy.1 wx'.1 wy'.1 vx1 vy1 hu hv).then hr hq (fun g1 G1 H1 _ _ s t le le' hr hq=>?_)
       have vl:∀ {l l':List TyT},WfTs G l→apTs B.s l'=renTs g (apTs A.s l)→apTs q1.2.s l'=renTs g1 (apTs r1.2.s l):=by
        intro l
        induction l with
        | nil =>
         intro l' _ v
         cases l' with
         | nil=>rfl
         | cons z l'=>cases v
        | cons z l ih =>
         intro l' w v
         cases l' with
         | nil=>cases v
         | cons z' l' =>
          rw[WfTs] at w
          rw[apTs,apTs,renTs] at v
          obtain⟨v1,v2⟩:=List.cons.inj v
          rw[apTs,apTs,renTs,t.t z z' w.1 v1,ih w.2 v2]
       exact hL sw g1 G1 r1.2 H1 q1.2 l k l' k' r m q s (wfTs_le le wx.2) (wfTs_le le wy.2) (wfTs_le le' wx'.2) (wfTs_le le' wy'.2) (by simpa using hlen) (vl wx.2 vx2) (vl wy.2 vy2) hr hq
theorem sws_cases{α:Type}{sw:Bool}{f:α→α→Option (Int×Ab)}{u v:α}{q:Int×Ab}(e:sws sw f u v=some q):(sw=false∧f u v=some q)∨(sw=true∧f v u=some q):=by
 cases sw
 ·exact Or.inl ⟨rfl,e⟩
 ·exact Or.inr ⟨rfl,e⟩
theorem sim_x{n:Nat}(hT:SiT n):SiX (n+1):=by
 intro sw g G A H B a b a' b' x r m q h wa wb wa' wb' va vb hr hq
 cases m with
 | zero=>cases sw <;>(unfold sws at hq;simp[uniX] at hq)
 | succ m =>
  rw[uniX] at hr
  cases h1:fnd x a.1 with
  | none =>
   have h1':fnd x a'.1=none:=(va.n x).1 h1
   cases h2:fnd x b.1 with
   | none =>
    have h2':fnd x b'.1=none:=(vb.n x).1 h2
    rw[h1,h2] at hr;cases hr
    have:q=(0,B):=by
     rcases sws_cases hq with⟨_,e⟩| ⟨_,e⟩
     ·rw[uniX,h1',h2'] at e;exact(Option.some.inj e).symm
     ·rw[uniX,h1',h2'] at e;exact(Option.some.inj e).symm
    rw[this];exact .stay h
   | some f =>
    obtain⟨f',h2'⟩:∃ f',fnd x b'.1=some f':=by
     cases e:fnd x b'.1 with
     | none=>rw[(vb.n x).2 e] at h2;cases h2
     | some f'=>exact⟨f',rfl⟩
    rw[h1,h2] at hr
    dsimp only at hr
    have:q=if a'.2=0 then absA B f' else (0,B):=by
     rcases sws_cases hq with⟨_,e⟩| ⟨_,e⟩
     ·rw[uniX,h1',h2'] at e;exact(Option.some.inj e).symm
     ·rw[uniX,h1',h2'] at e;exact(Option.some.inj e).symm
    rw[this]
    cases hr
    by_cases hz:a.2=0
    ·rw[if_pos hz,if_pos (va.z.2 hz)]
     exact sim_abs h (fnd_wf wb h2).1 (vb.v x f f' h2 h2')
    ·rw[if_neg hz,if_neg (fun e=>hz (va.z.1 e))];exact .stay h
  | some f =>
   obtain⟨f',h1'⟩:∃ f',fnd x a'.1=some f':=by
    cases e:fnd x a'.1 with
    | none=>rw[(va.n x).2 e] at h1;cases h1
    | some f'=>exact⟨f',rfl⟩
   have vf:=va.v x f f' h1 h1'
   cases h2:fnd x b.1 with
   | none =>
    have h2':fnd x b'.1=none:=(vb.n x).1 h2
    rw[h1,h2] at hr
    dsimp only at hr
    have:q=if b'.2=0 then absA B f' else (0,B):=by
     rcases sws_cases hq with⟨_,e⟩| ⟨_,e⟩
     ·rw[uniX,h1',h2'] at e;exact(Option.some.inj e).symm
     ·rw[uniX,h1',h2'] at e;exact(Option.some.inj e).symm
    rw[this]
    cases hr
    by_cases hz:b.2=0
    ·rw[if_pos hz,if_pos (vb.z.2 hz)]
     exact sim_abs h (fnd_wf wa h1).1 vf
    ·rw[if_neg hz,if_neg (fun e=>hz (vb.z.1 e))];exact .stay h
   | some k =>
    obtain⟨k',h2'⟩:∃ f',fnd x b'.1=some f':=by
     cases e:fnd x b'.1 with
     | none=>rw[(vb.n x).2 e] at h2;cases h2
     | some f'=>exact⟨f',rfl⟩
    have vk:=vb.v x k k' h2 h2'
    rw[h1,h2] at hr
    dsimp only at hr
    have wf:=(fnd_wf wa h1).1
    have wk:=(fnd_wf wb h2).1
    have wf':=(fnd_wf wa' h1').1
    have wk':=(fnd_wf wb' h2').1
    have pf:(apF B.s f').pr=(apF A.s f).pr:=by rw[vf,renF_pr]
    have pk:(apF B.s k').pr=(apF A.s k).pr:=by rw[vk,renF_pr]
    have s1:=sim_pres h (apF_wf h.oa.sw wf) (apF_wf h.oa.sw wk) (apF_fix h.oa.so f) (apF_fix h.oa.so k)
    rw[← vf,← vk] at s1
    have hq2:(if (sws sw (presA B) (apF B.s f') (apF B.s k')).1≠0∨(apF A.s f).pr=0∨(apF A.s k).pr=0 then some (sws sw (presA B) (apF B.s f') (apF B.s k'))else sws sw (uni m (sws sw (presA B) (apF B.s f') (apF B.s k')).2) (apF B.s f').t (apF B.s k').t)=some q:=by
     rcases sws_cases hq with⟨c,e⟩| ⟨c,e⟩
     ·subst c
      rw[uniX,h1',h2'] at e
      dsimp only at e
      rw[pf,pk] at e;exact e
     ·subst c
      rw[uniX,h1',h2'] at e
      dsimp only at e
      rw[pf,pk] at e
      by_cases c:(presA B (apF B.s k') (apF B.s f')).1≠0∨(apF A.s k).pr=0∨(apF A.s f).pr=0
      ·rw[if_pos c] at e;exact(if_pos (c.imp id Or.symm)).trans e
      ·rw[if_neg c] at e;exact(if_neg (fun d=>c (d.imp id Or.symm))).trans e
    clear hq
    by_cases hz:(apF A.s f).pr=0∨(apF A.s k).pr=0
    ·rw[if_pos (.inr hz)] at hr hq2
     cases hr;cases hq2;exact s1
    ·have hr:(if (presA A (apF A.s f) (apF A.s k)).1≠0 then some (presA A (apF A.s f) (apF A.s k))else uni n (presA A (apF A.s f) (apF A.s k)).2 (apF A.s f).t (apF A.s k).t)=some r:=by
      by_cases c:(presA A (apF A.s f) (apF A.s k)).1≠0
      ·rw[if_pos c];rw[if_pos (.inl c)] at hr;exact hr
      ·rw[if_neg c];rw[if_neg (fun d=>d.elim c hz)] at hr;exact hr
     have hq2:(if (sws sw (presA B) (apF B.s f') (apF B.s k')).1≠0 then some (sws sw (presA B) (apF B.s f') (apF B.s k'))else sws sw (uni m (sws sw (presA B) (apF B.s f') (apF B.s k')).2) (apF B.s f').t (apF B.s k').t)=some q:=by
      by_cases c:(sws sw (presA B) (apF B.s f') (apF B.s k')).1≠0
      ·rw[if_pos c];rw[if_pos (.inl c)] at hq2;exact hq2
      ·rw[if_neg c];rw[if_neg (fun d=>d.elim c hz)] at hq2;exact hq2
     have nf:(pre A.s f).1≠0:=fun e=>hz (.inl (by rw[apF_pr];exact e))
     have nk:(pre A.s k).1≠0:=fun e=>hz (.inr (by rw[apF_pr];exact e))
     have nf':(pre B.s f').1≠0:=fun e=>nf (by rw[← apF_pr,← pf,apF_pr];exact e)
     have nk':(pre B.s k').1≠0:=fun e=>nk (by rw[← apF_pr,← pk,apF_pr];exact e)
     have tv:∀ {f f':Fd},apF B.s f'=renF g (apF A.s f)→(pre A.s f).1≠0→(pre B.s f').1≠0→ap B.s f'.t=ren g (ap A.s f.t):=fun{f f'} v e e'=>by
      have:=congrArg Fl.t v
      rw[renF_t,apF_t _ _ e,apF_t _ _ e'] at this
      exact this
     refine s1.then hr hq2 (fun g1 G1 H1 _ _ s t l l' hr hq=>?_)
     rw[apF_t _ _ nf,apF_t _ _ nk] at hr
     rw[apF_t _ _ nf',apF_t _ _ nk'] at hq
     have w1:=ap_wf h.oa.sw (pr_ne wf nf)
     have w2:=ap_wf h.oa.sw (pr_ne wk nk)
     have w1':=ap_wf h.ob.sw (pr_ne wf' nf')
     have w2':=ap_wf h.ob.sw (pr_ne wk' nk')
     exact hT sw g1 G1 _ H1 _ _ _ _ _ r m q s (wfT_le l w1) (wfT_le l w2) (wfT_le l' w1') (wfT_le l' w2') (t.t _ _ w1 (by rw[ap_ap h.oa.so,ap_ap h.ob.so];exact tv vf nf nf')) (t.t _ _ w2 (by rw[ap_ap h.oa.so,ap_ap h.ob.so];exact tv vk nk nk')) hr hq
theorem ren_k(g:Int→Int)(t:TyT):(ren g t).k=t.k:=by obtain⟨k,v,a,f,r⟩:=t;rfl
theorem ren_args(g:Int→Int)(t:TyT):(ren g t).args=renTs g t.args:=by obtain⟨k,v,a,f,r⟩:=t;rfl
theorem ren_fs(g:Int→Int)(t:TyT):(ren g t).fs=renFs g t.fs:=by obtain⟨k,v,a,f,r⟩:=t;rfl
theorem ren_rest(g:Int→Int)(t:TyT):(ren g t).rest=if t.rest=0 then 0 else g t.rest:=by obtain⟨k,v,a,f,r⟩:=t;rfl
theorem ren_v(g:Int→Int){t:TyT}(h:t.k=1):(ren g t).v=g t.v:=by
 obtain⟨k,v,a,f,r⟩:=t
 rw[ren];exact if_pos h
theorem sim_t{n:Nat}(hL:SiL n)(hR:SiR n):SiT (n+1):=by
 intro sw g G A H B x y x' y' r m q h wx wy wx' wy' vx vy hr hq
 cases m with
 | zero=>cases sw <;>(unfold sws at hq;simp[uni] at hq)
 | succ m =>
  rw[uni] at hr
  have fX:=ap_fix h.oa.so x
  have fY:=ap_fix h.oa.so y
  have wX:=ap_wf h.oa.sw wx
  have wY:=ap_wf h.oa.sw wy
  have fX':=ap_fix h.ob.so x'
  have fY':=ap_fix h.ob.so y'
  have wX':=ap_wf h.ob.sw wx'
  have wY':=ap_wf h.ob.sw wy'
  have uB:∀ a b,uni (m+1) B a b=_:=fun a b=>uni.eq_2 B a b m
  have hB:(sw=false∧uni (m+1) B x' y'=some q)∨(sw=true∧uni (m+1) B y' x'=some q):=by
   cases sw
   ·exact .inl ⟨rfl,hq⟩
   ·exact .inr ⟨rfl,hq⟩
  rw[uB,uB,vx,vy] at hB
  rw[vx] at fX' wX'
  rw[vy] at fY' wY'
  generalize ap A.s x=X at *
  generalize ap A.s y=Y at *
  clear hq uB
  simp only[ren_k] at hB
  have lv:∀ {T:TyT},FixT A.s T→WfT G T→T.k=1→T = .var T.v∧G T.v = .ty∧A.s.ty T.v = .var T.v∧Lv G A T.v:=fun{T} f w e=>by
   obtain⟨e1,e2⟩:=var_of_fix f e
   have:G T.v = .ty:=by
    obtain⟨k,v,args,fs,rest⟩:=T
    rw[WfT] at w
    exact(w.2.1 e).2
   exact⟨e1,this,e2,lv_of_ty h.oa this e2⟩
  by_cases cx:X.k=1
  ·obtain⟨x1,x2,x3,x4⟩:=lv fX wX cx
   by_cases cy:Y.k=1
   ·obtain⟨y1,y2,y3,y4⟩:=lv fY wY cy
    rw[ren_v g cx,ren_v g cy] at hB
    by_cases cv:X.v=Y.v
    ·rw[if_pos ⟨cx,cy,cv⟩] at hr
     cases hr
     have:q=(0,B):=by
      rcases hB with⟨_,e⟩| ⟨_,e⟩
      ·rw[if_pos ⟨cx,cy,by rw[cv]⟩] at e;exact(Option.some.inj e).symm
      ·rw[if_pos ⟨cy,cx,by rw[cv]⟩] at e;exact(Option.some.inj e).symm
     rw[this];exact .stay h
    ·have hne:g X.v≠g Y.v:=fun e=>cv (h.inj _ _ x4 y4 e)
     rw[if_neg (fun c=>cv c.2.2),if_pos cx] at hr
     rw[← Option.some.inj hr]
     rcases hB with⟨c,e⟩| ⟨c,e⟩
     ·rw[if_neg (fun c=>hne c.2.2),if_pos cx] at e
      rw[← Option.some.inj e]
      exact sim_ty h x2 x3 fY wY fY' wY'
     ·subst c
      rw[if_neg (fun c=>hne c.2.2.symm),if_pos cy] at e
      rw[← Option.some.inj e,y1,x1,ren_var]
      exact sim_ty_flip h x2 y2 x3 y3 cv
   ·rw[if_neg (fun c=>cy c.2.1),if_pos cx] at hr
    rw[← Option.some.inj hr]
    have:q=bindA B (g X.v) (ren g Y):=by
     rcases hB with⟨_,e⟩| ⟨_,e⟩
     ·rw[if_neg (fun c=>cy c.2.1),if_pos cx,ren_v g cx] at e;exact(Option.some.inj e).symm
     ·rw[if_neg (fun c=>cy c.1),if_neg cy,if_pos cx,ren_v g cx] at e;exact(Option.some.inj e).symm
    rw[this]
    exact sim_ty h x2 x3 fY wY fY' wY'
  ·by_cases cy:Y.k=1
   ·obtain⟨y1,y2,y3,y4⟩:=lv fY wY cy
    rw[if_neg (fun c=>cx c.1),if_neg cx,if_pos cy] at hr
    rw[← Option.some.inj hr]
    have:q=bindA B (g Y.v) (ren g X):=by
     rcases hB with⟨_,e⟩| ⟨_,e⟩
     ·rw[if_neg (fun c=>cx c.1),if_neg cx,if_pos cy,ren_v g cy] at e;exact(Option.some.inj e).symm
     ·rw[if_neg (fun c=>cx c.2.1),if_pos cy,ren_v g cy] at e;exact(Option.some.inj e).symm
    rw[this]
    exact sim_ty h y2 y3 fX wX fX' wX'
   ·rw[if_neg (fun c=>cx c.1),if_neg cx,if_neg cy] at hr
    by_cases ck:X.k=Y.k
    ·rw[if_neg (by simpa using ck)] at hr
     cases hu:uniL n A X.args Y.args with
     | none=>rw[hu] at hr;cases hr
     | some r1 =>
      obtain⟨e1,A1⟩:=r1
      rw[hu] at hr
      dsimp only at hr
      have hq2:∃ q1,sws sw (uniL m B) (renTs g X.args) (renTs g Y.args)=some q1∧(if q1.1≠0 then some q1 else if rwd X.k=true then sws sw (fun a b:List Fd×Int=>uniR m q1.2 a.1 a.2 b.1 b.2) (renFs g X.fs,if X.rest=0 then 0 else g X.rest) (renFs g Y.fs,if Y.rest=0 then 0 else g Y.rest)else some (0,q1.2))=some q:=by
       rcases hB with⟨c,e⟩| ⟨c,e⟩
       ·subst c
        rw[if_neg (fun c=>cx c.1),if_neg cx,if_neg cy,if_neg (by simpa using ck),ren_args,ren_args] at e
        cases hv:uniL m B (renTs g X.args) (renTs g Y.args)with
        | none=>rw[hv] at e;cases e
        | some q1 =>
         rw[hv] at e
         rw[ren_fs,ren_fs,ren_rest,ren_rest] at e
         exact⟨q1,hv,e⟩
       ·subst c
        rw[if_neg (fun c=>cy c.1),if_neg cy,if_neg cx,if_neg (by simpa using ck.symm),ren_args,ren_args] at e
        cases hv:uniL m B (renTs g Y.args) (renTs g X.args)with
        | none=>rw[hv] at e;cases e
        | some q1 =>
         rw[hv] at e
         rw[ren_fs,ren_fs,ren_rest,ren_rest,← ck] at e
         exact⟨q1,hv,e⟩
      obtain⟨q1,hv,hq⟩:=hq2
      obtain⟨k,v,args,fs,rest⟩:=X
      obtain⟨k',v',args',fs',rest'⟩:=Y
      have ck:k=k':=ck
      subst ck
      have cx:k≠1:=cx
      rw[FixT,if_neg cx] at fX fY
      rw[ren,FixT,if_neg cx] at fX' fY'
      rw[ren] at wX' wY'
      rw[WfT] at wX wY wX' wY'
      have hlen:args.length=args'.length:=Option.some.inj (wX.1.symm.trans wY.1)
      have s1:=hL sw g G A H B args args' (renTs g args) (renTs g args') (e1,A1) m q1 h wX.2.2.2.1 wY.2.2.2.1 wX'.2.2.2.1 wY'.2.2.2.1 hlen (by rw[fixTs_ap fX'.1,fixTs_ap fX.1]) (by rw[fixTs_ap fY'.1,fixTs_ap fY.1]) hu hv
      refine s1.then hr hq (fun g1 G1 H1 _ _ s t l l' hr hq=>?_)
      by_cases hw:rwd k=true
      ·have hw':rwd (TyT.mk k v args fs rest).k=true:=hw
       rw[if_pos hw'] at hr
       rw[if_pos hw'] at hq
       have rX:=wX.2.2.2.2.2
       have rY:=wY.2.2.2.2.2
       have rX':=wX'.2.2.2.2.2
       have rY':=wY'.2.2.2.2.2
       rw[if_pos hw] at rX rY rX' rY' fX fY fX' fY'
       have v1:apRow B.s (renFs g fs) (if rest=0 then 0 else g rest)=renR g (apRow A.s fs rest):=by
        rw[fixR_ap (q:=(fs,rest)) fX.2]
        exact fixR_ap (q:=(renFs g fs,if rest=0 then 0 else g rest)) fX'.2
       have v2:apRow B.s (renFs g fs') (if rest'=0 then 0 else g rest')=renR g (apRow A.s fs' rest'):=by
        rw[fixR_ap (q:=(fs',rest')) fY.2]
        exact fixR_ap (q:=(renFs g fs',if rest'=0 then 0 else g rest')) fY'.2
       exact hR sw g1 G1 A1 H1 q1.2 k (fun _=>False) (fs,rest) (fs',rest') (renFs g fs,if rest=0 then 0 else g rest) (renFs g fs',if rest'=0 then 0 else g rest') r m q s
        ⟨wfFs_le l wX.2.2.2.2.1,wfFs_le l wY.2.2.2.2.1,rX.le l,rY.le l⟩ ⟨wfFs_le l' wX'.2.2.2.2.1,wfFs_le l' wY'.2.2.2.2.1,rX'.le l',rY'.le l'⟩
        (t.r k _ fs _ rest _ wX.2.2.2.2.1 rX v1) (t.r k _ fs' _ rest' _ wY.2.2.2.2.1 rY v2) hr hq
      ·have hw':¬ rwd (TyT.mk k v args fs rest).k=true:=hw
       rw[if_neg hw'] at hr
       rw[if_neg hw'] at hq
       cases hr;cases hq;exact .stay s
    ·rw[if_pos ck] at hr
     cases hr
     have:q=(25,B):=by
      rcases hB with⟨_,e⟩| ⟨_,e⟩
      ·rw[if_neg (fun c=>cx c.1),if_neg cx,if_neg cy,if_pos ck] at e;exact(Option.some.inj e).symm
      ·rw[if_neg (fun c=>cy c.1),if_neg cy,if_neg cx,if_pos (Ne.symm ck)] at e;exact(Option.some.inj e).symm
     rw[this];exact .bad (by decide)
theorem renR_z{g:Int→Int}(hg:NZ g)(Q:List Fd×Int):(renR g Q).2=0↔Q.2=0:=by
 unfold renR
 dsimp only
 by_cases e:Q.2=0
 ·rw[if_pos e];simp[e]
 ·rw[if_neg e];exact⟨fun c=>absurd c (hg _ e),fun c=>absurd c e⟩
theorem renFs_all{g:Int→Int}{l:List Fd}:(∀ f ∈ renFs g l,f.pr=0)↔∀ f ∈ l,f.pr=0:=by
 rw[renFs_map]
 constructor
 ·intro h f hf;have:=h _ (List.mem_map_of_mem hf);rw[renF_pr] at this;exact this
 ·intro h f hf
  obtain⟨f0,h0,rfl⟩:=List.mem_map.1 hf
  rw[renF_pr];exact h f0 h0
theorem apart_ren{g:Int→Int}(hg:NZ g){Q P:List Fd×Int}:Apart (renR g Q) (renR g P)↔Apart Q P:=by
 have e1:∀ Q:List Fd×Int,labs (renR g Q).1=labs Q.1:=fun Q=>labs_ren g Q.1
 have e2:∀ Q:List Fd×Int,(∀ f ∈ (renR g Q).1,f.pr=0)↔∀ f ∈ Q.1,f.pr=0:=fun Q=>renFs_all
 unfold Apart
 rw[e1,e1,renR_z hg,renR_z hg,e2,e2]
theorem row_res{G:Ctx}{A:Ab}{k a b:Int}{C:List UInt8→Prop}{o1 o2:List Fd}(hA:AOk G A)(ht:Two G k C (o1,a) (o2,b))(hd:Apart (apRow A.s o1 a) (apRow A.s o2 b)){n:Nat}{r:Int×Ab}
  (hr:(if (told A a||told A b)=true then uniR n A o1 a o2 b else some (restsA A a b o1 o2))=some r):r=restsA A (apRow A.s o1 a).2 (apRow A.s o2 b).2 (apRow A.s o1 a).1 (apRow A.s o2 b).1:=by
 by_cases e:(told A a||told A b)=true
 ·rw[if_pos e] at hr
  have w1:=apRow_wf hA.sw ht.wq ht.rq
  have w2:=apRow_wf hA.sw ht.wp ht.rp
  exact uniR_noop (k:=k) (C:=C) hA ⟨w1.1,w2.1,w1.2,w2.2⟩ hd.1 hd.2.1 hd.2.2 hr
 ·rw[if_neg e] at hr
  rw[Bool.not_eq_true,Bool.or_eq_false_iff] at e
  have na:=not_told hA ht.rq.2.2 e.1
  have nb:=not_told hA ht.rp.2.2 e.2
  rw[← Option.some.inj hr,restsA_norm hA na nb]
  have e1:(apRow A.s o1 a).2=a:=by rw[apRow_un na];rfl
  have e2:(apRow A.s o2 b).2=b:=by rw[apRow_un nb];rfl
  rw[e1,e2]
theorem row_un{G:Ctx}{A:Ab}{k:Int}{C:List UInt8→Prop}{q p:List Fd×Int}(hA:AOk G A)(ht:Two G k C q p)(hg:∀ x ∈ lsOf q.1 p.1,Agr A.s q p x)(h:(told A q.2||told A p.2)=false):Apart (apRow A.s (onlyL q.1 p.1 (lsOf q.1 p.1)) q.2) (apRow A.s (onlyL p.1 q.1 (lsOf q.1 p.1)) p.2):=by
 rw[Bool.or_eq_false_iff] at h
 rw[apRow_un (not_told hA ht.rq.2.2 h.1),apRow_un (not_told hA ht.rp.2.2 h.2)]
 have m:∀ {o:List Fd} {r:Int},(∀ f ∈ o,(pre A.s f).1=0)→∀ f ∈ (nrm (apFs A.s o) r).1,f.pr=0:=fun{o r} ho f hf=>by
  have:=nrm_mem hf
  rw[apFs_map] at this
  obtain⟨f0,h0,rfl⟩:=List.mem_map.1 this
  rw[apF_pr];exact ho f0 h0
 refine⟨fun x hx hc=>?_,fun hz=>m (fun f hf=>?_),fun hz=>m (fun f hf=>?_)⟩
 ·have h1:=nrm_labs_sub hx
  have h2:=nrm_labs_sub hc
  rw[labs_apFs] at h1 h2
  obtain⟨f,k1,k2⟩:=labs_mem.1 h1
  obtain⟨f',k3,k4⟩:=labs_mem.1 h2
  subst k2
  have:=(onlyL_mem k1).2.2
  exact this (labs_mem.2 ⟨f',(onlyL_mem k3).2.1,k4⟩)
 ·obtain⟨k1,k2,k3⟩:=onlyL_mem hf
  exact(hg _ k1).2.1 f (fnd_of (ri_nodup ht.rq.1) k2) (fnd_none.2 k3) hz
 ·obtain⟨k1,k2,k3⟩:=onlyL_mem hf
  exact(hg _ k1).2.2 f (fnd_none.2 k3) (fnd_of (ri_nodup ht.rp.1) k2) hz
theorem agr_symm{s:Sub}{q p:List Fd×Int}{x:List UInt8}(h:Agr s q p x):Agr s p q x:=⟨fun f g h1 h2=>(h.1 g f h2 h1).symm,fun f h1 h2=>h.2.2 f h2 h1,fun g h1 h2=>h.2.1 g h2 h1⟩
theorem fv_of{g:Int→Int}(hg:NZ g){A B:Ab}{q:List Fd×Int}(hq:FixR A.s q)(hq':FixR B.s (renR g q)):FV g A B q (renR g q):=by
 have e:∀ x,fnd x (renR g q).1=(fnd x q.1).map (renF g):=fun x=>fnd_ren g x q.1
 refine⟨fun x=>by rw[e];cases fnd x q.1 <;> simp,fun x f f' h1 h2=>?_,renR_z hg q⟩
 have h3:=h2
 rw[e,h1] at h3
 have h3:renF g f=f':=Option.some.inj h3
 rw[fixF_ap ((fixFs_iff A.s _).1 hq.1 f (fnd_some h1).1),fixF_ap ((fixFs_iff B.s _).1 hq'.1 f' (fnd_some h2).1),h3]
theorem only_view{g:Int→Int}(hg:NZ g){A B:Ab}{q p:List Fd×Int}(hq:FixR A.s q)(hq':FixR B.s (renR g q))(ls:List (List UInt8)):apRow B.s (renFs g (onlyL q.1 p.1 ls)) (renR g q).2=renR g (apRow A.s (onlyL q.1 p.1 ls) q.2):=by
 have f1:FixFs A.s (onlyL q.1 p.1 ls):=(fixFs_iff A.s _).2 (fun f hf=>(fixFs_iff A.s _).1 hq.1 f (onlyL_mem hf).2.1)
 have f2:FixFs B.s (renFs g (onlyL q.1 p.1 ls)):=(fixFs_iff B.s _).2 (fun f hf=>by
  rw[renFs_map] at hf
  obtain⟨f0,h0,rfl⟩:=List.mem_map.1 hf
  refine(fixFs_iff B.s _).1 hq'.1 _ ?_
  show renF g f0 ∈ renFs g q.1
  rw[renFs_map];exact List.mem_map_of_mem (onlyL_mem h0).2.1)
 rw[apRow_un hq'.2.1,apRow_un hq.2.1,fixFs_ap f1,fixFs_ap f2]
 exact nrm_ren hg _ _
theorem sim_r{n:Nat}(hM:SiM n)(hR:SiR n):SiR (n+1):=by
 intro sw g G A H B k C a b a' b' r m q0 h ht ht' va vb hr hq
 cases m with
 | zero=>cases sw <;>(unfold sws at hq;simp[uniR] at hq)
 | succ m =>
  have wq:=apRow_wf h.oa.sw ht.wq ht.rq
  have wp:=apRow_wf h.oa.sw ht.wp ht.rp
  have wq':=apRow_wf h.ob.sw ht'.wq ht'.rq
  have wp':=apRow_wf h.ob.sw ht'.wp ht'.rp
  have fq:=apRow_fix h.oa.so a.1 a.2
  have fp:=apRow_fix h.oa.so b.1 b.2
  have fq':=apRow_fix h.ob.so a'.1 a'.2
  have fp':=apRow_fix h.ob.so b'.1 b'.2
  rw[va] at wq' fq'
  rw[vb] at wp' fp'
  rw[uniR] at hr
  have hB:(sw=false∧uniR (m+1) B a'.1 a'.2 b'.1 b'.2=some q0)∨(sw=true∧uniR (m+1) B b'.1 b'.2 a'.1 a'.2=some q0):=sws_cases hq
  rw[uniR,uniR,va,vb] at hB
  clear hq va vb
  generalize apRow A.s a.1 a.2=q at *
  generalize apRow A.s b.1 b.2=p at *
  have t0:Two G k C q p:=⟨wq.1,wp.1,wq.2,wp.2⟩
  have t0':Two H k C (renR g q) (renR g p):=⟨wq'.1,wp'.1,wq'.2,wp'.2⟩
  have el:lsOf (renR g q).1 (renR g p).1=lsOf q.1 p.1:=lsOf_ren g q.1 p.1
  have el2:lsOf (renR g p).1 (renR g q).1=lsOf q.1 p.1:=(lsOf_comm _ _).trans el
  have eo1:∀ ls,onlyL (renR g q).1 (renR g p).1 ls=renFs g (onlyL q.1 p.1 ls):=only_ren g q.1 p.1
  have eo2:∀ ls,onlyL (renR g p).1 (renR g q).1 ls=renFs g (onlyL p.1 q.1 ls):=only_ren g p.1 q.1
  rw[el,el2,eo1,eo2] at hB
  cases hu:uniM n A q p (lsOf q.1 p.1)with
  | none=>rw[hu] at hr;cases hr
  | some r1 =>
   rw[hu] at hr
   have hr:(if r1.1≠0 then some r1 else if (told r1.2 q.2||told r1.2 p.2)=true then uniR n r1.2 (onlyL q.1 p.1 (lsOf q.1 p.1)) q.2 (onlyL p.1 q.1 (lsOf q.1 p.1)) p.2 else some (restsA r1.2 q.2 p.2 (onlyL q.1 p.1 (lsOf q.1 p.1)) (onlyL p.1 q.1 (lsOf q.1 p.1))))=some r:=hr
   have hq2:∃ q1,sws sw (fun a b=>uniM m B a b (lsOf q.1 p.1)) (renR g q) (renR g p)=some q1∧(if q1.1≠0 then some q1 else sws sw (fun a b:List Fd×Int=>if (told q1.2 a.2||told q1.2 b.2)=true then uniR m q1.2 a.1 a.2 b.1 b.2 else some (restsA q1.2 a.2 b.2 a.1 b.1)) (renFs g (onlyL q.1 p.1 (lsOf q.1 p.1)),(renR g q).2) (renFs g (onlyL p.1 q.1 (lsOf q.1 p.1)),(renR g p).2))=some q0:=by
    rcases hB with⟨c,e⟩| ⟨c,e⟩
    ·subst c
     cases hv:uniM m B (renR g q) (renR g p) (lsOf q.1 p.1)with
     | none=>rw[hv] at e;cases e
     | some q1=>rw[hv] at e;exact⟨q1,hv,e⟩
    ·subst c
     cases hv:uniM m B (renR g p) (renR g q) (lsOf q.1 p.1)with
     | none=>rw[hv] at e;cases e
     | some q1=>rw[hv] at e;exact⟨q1,hv,e⟩
   obtain⟨q1,hv,hq⟩:=hq2
   clear hB
   refine(hM sw g G A H B q p (renR g q) (renR g p) (lsOf q.1 p.1) r1 m q1 h t0.wq t0.wp t0'.wq t0'.wp (fv_of h.nz fq fq') (fv_of h.nz fp fp') hu hv).then hr hq (fun g1 G1 H1 z1 z2 s t l l' hr hq=>?_)
   have t1:=t0.le l
   have t1':=t0'.le l'
   have hls:=lsOf_ri q.1 p.1
   have hlq:∀ x,x ∈ labs q.1→x ∈ lsOf q.1 p.1:=fun x hx=>lsOf_mem.2 (.inl hx)
   have hlp:∀ x,x ∈ labs p.1→x ∈ lsOf q.1 p.1:=fun x hx=>lsOf_mem.2 (.inr hx)
   have lq:labs (renR g q).1=labs q.1:=labs_ren g q.1
   have lp:labs (renR g p).1=labs p.1:=labs_ren g p.1
   obtain⟨w1,o1⟩:=only_row t1 hls hlq
   obtain⟨w2,o2⟩:=only_row t1.symm hls hlp
   obtain⟨w1',o1'⟩:=only_row t1' hls (fun x hx=>hlq x (by rw[← lq];exact hx))
   obtain⟨w2',o2'⟩:=only_row t1'.symm hls (fun x hx=>hlp x (by rw[← lp];exact hx))
   rw[eo1] at w1' o1'
   rw[eo2] at w2' o2'
   rw[lq,lp] at o1' o2'
   have tt:=Two.mk (q:=(onlyL q.1 p.1 (lsOf q.1 p.1),q.2)) (p:=(onlyL p.1 q.1 (lsOf q.1 p.1),p.2)) w1 w2 o1 (o2.iff (fun x=>by rw[and_comm]))
   have tt':=Two.mk (q:=(renFs g (onlyL q.1 p.1 (lsOf q.1 p.1)),(renR g q).2)) (p:=(renFs g (onlyL p.1 q.1 (lsOf q.1 p.1)),(renR g p).2)) w1' w2' o1' (o2'.iff (fun x=>by rw[and_comm]))
   have ol:∀ {q p:List Fd×Int} {ls:List (List UInt8)},Two G k C q p→Ri ls→(∀ x,x ∈ labs q.1→x ∈ ls)→WfFs G (onlyL q.1 p.1 ls)∧RowOk G k (fun x=>C x∨x ∈ labs q.1∧x ∈ labs p.1) (onlyL q.1 p.1 ls) q.2:=fun t h1 h2=>only_row t h1 h2
   obtain⟨b1,b2⟩:=ol t0 hls hlq
   obtain⟨b3,b4⟩:=ol t0.symm hls hlp
   have v1:=t.r k _ _ _ _ _ b1 b2 (only_view h.nz fq fq' (lsOf q.1 p.1))
   have v2:=t.r k _ _ _ _ _ b3 b4 (only_view h.nz fp fp' (lsOf q.1 p.1))
   by_cases both:(told r1.2 q.2||told r1.2 p.2)=true∧(told q1.2 (renR g q).2||told q1.2 (renR g p).2)=true
   ·rw[if_pos both.1] at hr
    have hq:sws sw (fun a b:List Fd×Int=>uniR m q1.2 a.1 a.2 b.1 b.2) (renFs g (onlyL q.1 p.1 (lsOf q.1 p.1)),(renR g q).2) (renFs g (onlyL p.1 q.1 (lsOf q.1 p.1)),(renR g p).2)=some q0:=by
     cases sw
     ·exact(if_pos both.2).symm.trans hq
     ·exact(if_pos (by rw[Bool.or_comm];exact both.2)).symm.trans hq
    exact hR sw g1 G1 r1.2 H1 q1.2 k _ (onlyL q.1 p.1 (lsOf q.1 p.1),q.2) (onlyL p.1 q.1 (lsOf q.1 p.1),p.2) (renFs g (onlyL q.1 p.1 (lsOf q.1 p.1)),(renR g q).2) (renFs g (onlyL p.1 q.1 (lsOf q.1 p.1)),(renR g p).2) r m q0 s tt tt' v1 v2 hr hq
   ·have ap:Apart (apRow r1.2.s (onlyL q.1 p.1 (lsOf q.1 p.1)) q.2) (apRow r1.2.s (onlyL p.1 q.1 (lsOf q.1 p.1)) p.2):=by
     by_cases c1:(told r1.2 q.2||told r1.2 p.2)=true
     ·have c2:(told q1.2 (renR g q).2||told q1.2 (renR g p).2)=false:=by
       cases e:(told q1.2 (renR g q).2||told q1.2 (renR g p).2)
       ·rfl
       ·exact absurd ⟨c1,e⟩ both
      have ag:∀ x ∈ lsOf q.1 p.1,Agr q1.2.s (renR g q) (renR g p) x:=by
       obtain⟨e,B1⟩:=q1
       have z2:e=0:=z2
       subst z2
       cases sw
       ·obtain⟨_,_,hx⟩:=(uni_all m).2.2.2.1 H B _ _ _ B1 h.ob t0'.wq t0'.wp hv
        exact hx
       ·obtain⟨_,_,hx⟩:=(uni_all m).2.2.2.1 H B _ _ _ B1 h.ob t0'.wp t0'.wq hv
        exact fun x hx'=>agr_symm (hx x hx')
      have:=row_un s.ob t1' (by rw[el];exact ag) c2
      rw[el,eo1,eo2,v1,v2] at this
      exact(apart_ren s.nz).1 this
     ·have ag:∀ x ∈ lsOf q.1 p.1,Agr r1.2.s q p x:=by
       obtain⟨e,A1⟩:=r1
       have z1:e=0:=z1
       subst z1
       obtain⟨_,_,hx⟩:=(uni_all n).2.2.2.1 G A _ _ _ A1 h.oa t0.wq t0.wp hu
       exact hx
      exact row_un s.oa t1 ag (by simpa using c1)
    have ap':=(apart_ren s.nz).2 ap
    rw[← v1,← v2] at ap'
    have er:=row_res s.oa tt ap hr
    have eq:q0=sws sw (fun q p:List Fd×Int=>restsA q1.2 q.2 p.2 q.1 p.1) (renR g1 (apRow r1.2.s (onlyL q.1 p.1 (lsOf q.1 p.1)) q.2)) (renR g1 (apRow r1.2.s (onlyL p.1 q.1 (lsOf q.1 p.1)) p.2)):=by
     rw[← v1,← v2]
     cases sw
     ·exact row_res s.ob tt' ap' hq
     ·exact row_res s.ob tt'.symm ap'.symm hq
    rw[er,eq]
    have x1:=apRow_wf s.oa.sw tt.wq tt.rq
    have x2:=apRow_wf s.oa.sw tt.wp tt.rp
    have y1:=apRow_wf s.ob.sw tt'.wq tt'.rq
    have y2:=apRow_wf s.ob.sw tt'.wp tt'.rp
    dsimp only at x1 x2 y1 y2
    have g1':=apRow_fix s.ob.so (renFs g (onlyL q.1 p.1 (lsOf q.1 p.1))) (renR g q).2
    have g2':=apRow_fix s.ob.so (renFs g (onlyL p.1 q.1 (lsOf q.1 p.1))) (renR g p).2
    rw[v1] at y1 g1'
    rw[v2] at y2 g2'
    exact sim_rests ⟨s,⟨x1.1,x2.1,x1.2,x2.2⟩,⟨y1.1,y2.1,y1.2,y2.2⟩,ap.1,apRow_fix s.oa.so _ _,apRow_fix s.oa.so _ _,g1',g2'⟩
theorem si_all:∀ n,SiT n∧SiL n∧SiR n∧SiM n∧SiX n
 | 0=>⟨(fun _ _ _ _ _ _ _ _ _ _ _ _ _ _ _ _ _ _ _ _ h=>by rw[uni] at h;cases h),(fun _ _ _ _ _ _ _ _ _ _ _ _ _ _ _ _ _ _ _ _ _ h=>by rw[uniL] at h;cases h),(fun _ _ _ _ _ _ _ _ _ _ _ _ _ _ _ _ _ _ _ _ h=>by rw[uniR] at h;cases h),(fun _ _ _ _ _ _ _ _ _ _ _ _ _ _ _ _ _ _ _ _ _ h=>by rw[uniM] at h;cases h),(fun _ _ _ _ _ _ _ _ _ _ _ _ _ _ _ _ _ _ _ _ _ h=>by rw[uniX] at h;cases h)⟩
 | n+1 =>
  let ⟨h1,h2,h3,h4,h5⟩:=si_all n
  ⟨sim_t h2 h3,sim_l h1 h2,sim_r h4 h3,sim_m h5 h4,sim_x h1⟩
theorem one_nrm{G:Ctx}{k:Int}{C:List UInt8→Prop}{fs:List Fd}{r:Int}(h:RowOk G k C fs r):nrm fs r=(fs,r):=by
 unfold nrm
 rw[srt_id (sd_of_ri h.1)]
 by_cases e:r=0
 ·rw[if_pos e,List.filter_eq_self.2 (fun f hf=>by
   unfold here
   exact bne_iff_ne.2 (fun c=>(h.2.1 f hf).2.2 c e))]
 ·rw[if_neg e]
mutual
theorem one_fix{G:Ctx}:∀ {t:TyT},WfT G t→FixT .one t
 | .mk k v args fs rest,h=>by
  rw[WfT] at h
  rw[FixT]
  have h6:=h.2.2.2.2.2
  by_cases h1:k=1
  ·subst h1
   rw[if_pos rfl]
   rw[if_neg (by decide)] at h6
   have h0:(some 0:Option Nat)=some args.length:=h.1
   exact⟨rfl,List.eq_nil_of_length_eq_zero (Option.some.inj h0).symm,h6⟩
  ·rw[if_neg h1]
   refine⟨oneTs_fix h.2.2.2.1,?_⟩
   by_cases h2:rwd k=true
   ·rw[if_pos h2] at h6 ⊢
    exact⟨oneFs_fix h.2.2.2.2.1,rfl,one_nrm h6⟩
   ·rw[if_neg h2] at h6 ⊢;exact h6
theorem oneTs_fix{G:Ctx}:∀ {l:List TyT},WfTs G l→FixTs .one l
 | [],_=>trivial
 | x::l,h=>by rw[WfTs] at h;rw[FixTs];exact⟨one_fix h.1,oneTs_fix h.2⟩
theorem oneFs_fix{G:Ctx}:∀ {l:List Fd},WfFs G l→FixFs .one l
 | [],_=>trivial
 | x::l,h=>by rw[WfFs] at h;rw[FixFs];exact⟨oneF_fix h.1,oneFs_fix h.2⟩
theorem oneF_fix{G:Ctx}:∀ {f:Fd},WfF G f→FixF .one f
 | ⟨lb,pr,p,t⟩,h=>by
  rw[WfF] at h
  rw[FixF]
  rcases h with⟨rfl,rfl,rfl⟩| ⟨rfl,rfl,ht⟩| ⟨rfl,hp,hg,ht⟩
  ·rw[if_pos rfl]
  ·rw[if_neg (by decide)];exact⟨one_fix ht,fun e=>by cases e⟩
  ·rw[if_neg (by decide)];exact⟨one_fix ht,fun _=>rfl⟩
end
theorem one_ap{G:Ctx}{t:TyT}(h:WfT G t):ap .one t=t:=fix_ap (one_fix h)
theorem vt_zero(P:Int→Prop):VT P .zero:=by rw[TyT.zero,VT];exact⟨fun c=>(by cases c),trivial,trivial,fun c=>absurd rfl c⟩
mutual
/-- what stands in what is resolved has a name,and nothing is known of it -/
theorem vt_lv{G:Ctx}{A:Ab}(hA:AOk G A):∀ {t:TyT},FixT A.s t→WfT G t→VT (Lv G A) t
 | .mk k v args fs rest,hf,hw=>by
  rw[FixT] at hf
  rw[WfT] at hw
  rw[VT]
  have h6:=hw.2.2.2.2.2
  by_cases h1:k=1
  ·rw[if_pos h1] at hf
   obtain⟨e,rfl,rfl,rfl⟩:=hf
   exact⟨fun c=>lv_of_ty hA (hw.2.1 c).2 e,trivial,trivial,fun c=>absurd rfl c⟩
  ·rw[if_neg h1] at hf
   refine⟨fun c=>absurd c h1,vts_lv hA hf.1 hw.2.2.2.1,?_⟩
   by_cases h2:rwd k=true
   ·rw[if_pos h2] at hf h6
    refine⟨vfs_lv hA hf.2.1 hw.2.2.2.2.1,fun c=>?_⟩
    rcases h6.2.2 with d|⟨_,L,d,_⟩
    ·exact absurd d c
    ·exact lv_of_rw hA d hf.2.2.1
   ·rw[if_neg h2] at h6
    rw[h6.1,h6.2];exact⟨trivial,fun c=>absurd rfl c⟩
theorem vts_lv{G:Ctx}{A:Ab}(hA:AOk G A):∀ {t:List TyT},FixTs A.s t→WfTs G t→VTs (Lv G A) t
 | [],_,_=>trivial
 | x::l,hf,hw=>by rw[FixTs] at hf;rw[WfTs] at hw;rw[VTs];exact⟨vt_lv hA hf.1 hw.1,vts_lv hA hf.2 hw.2⟩
theorem vfs_lv{G:Ctx}{A:Ab}(hA:AOk G A):∀ {t:List Fd},FixFs A.s t→WfFs G t→VFs (Lv G A) t
 | [],_,_=>trivial
 | x::l,hf,hw=>by rw[FixFs] at hf;rw[WfFs] at hw;rw[VFs];exact⟨vf_lv hA hf.1 hw.1,vfs_lv hA hf.2 hw.2⟩
theorem vf_lv{G:Ctx}{A:Ab}(hA:AOk G A):∀ {t:Fd},FixF A.s t→WfF G t→VF (Lv G A) t
 | ⟨lb,pr,p,t⟩,hf,hw=>by
  rw[FixF] at hf
  rw[WfF] at hw
  rw[VF]
  rcases hw with⟨rfl,rfl,rfl⟩| ⟨rfl,rfl,ht⟩| ⟨rfl,hp,hg,ht⟩
  ·exact⟨fun c=>(by cases c),vt_zero _⟩
  ·rw[if_neg (by decide)] at hf;exact⟨fun c=>(by cases c),vt_lv hA hf.1 ht⟩
  ·rw[if_neg (by decide)] at hf;exact⟨fun _=>lv_of_pr hA hg (hf.2 rfl),vt_lv hA hf.1 ht⟩
end
theorem onceI_ren{P:Int→Prop}{g:Int→Int}(hi:∀ u v,P u→P v→g u=g v→u=v){b:Bool}{l:List Int}{v:Int}(hv:b=true→P v)(hl:∀ u ∈ l,P u):onceI b (l.map g) (g v)=(onceI b l v).map g∧∀ u ∈ onceI b l v,P u:=by
 unfold onceI
 by_cases hb:b=true
 ·by_cases hm:v ∈ l
  ·rw[if_neg (fun c=>c.2 (List.mem_map_of_mem hm)),if_neg (fun c=>c.2 hm)];exact⟨rfl,hl⟩
  ·rw[if_pos ⟨hb,fun c=>by
    obtain⟨u,hu,e⟩:=List.mem_map.1 c
    rw[hi u v (hl u hu) (hv hb) e] at hu;exact hm hu⟩,if_pos ⟨hb,hm⟩,List.map_append]
   refine⟨rfl,fun u hu=>?_⟩
   rcases List.mem_append.1 hu with c|c
   ·exact hl u c
   ·rw[List.mem_singleton.1 c];exact hv hb
 ·rw[if_neg (fun c=>hb c.1),if_neg (fun c=>hb c.1)];exact⟨rfl,hl⟩
mutual
theorem vars_ren{P:Int→Prop}{g:Int→Int}(hg:NZ g)(hi:∀ u v,P u→P v→g u=g v→u=v):∀ {t:TyT}{l:List Int},VT P t→(∀ u ∈ l,P u)→varsT (ren g t) (l.map g)=(varsT t l).map g∧∀ u ∈ varsT t l,P u
 | .mk k v args fs rest,l,h,hl=>by
  rw[VT] at h
  rw[ren,varsT,varsT]
  have h1:onceI (k==1) (l.map g) (if k=1 then g v else v)=(onceI (k==1) l v).map g∧∀ u ∈ onceI (k==1) l v,P u:=by
   by_cases e:k=1
   ·rw[if_pos e];exact onceI_ren hi (fun _=>h.1 e) hl
   ·have:(k==1)=false:=beq_eq_false_iff_ne.2 e
    rw[this];exact⟨rfl,hl⟩
  rw[h1.1]
  obtain⟨e2,p2⟩:=varsTs_ren hg hi (l:=onceI (k==1) l v) h.2.1 h1.2
  rw[e2]
  obtain⟨e3,p3⟩:=varsFs_ren hg hi h.2.2.1 p2
  rw[e3]
  by_cases e:rest=0
  ·subst e;exact⟨rfl,p3⟩
  ·rw[if_neg e,show(g rest != 0)=(rest != 0)from by rw[bne_iff_ne.2 (hg _ e),bne_iff_ne.2 e]]
   exact onceI_ren hi (fun _=>h.2.2.2 e) p3
theorem varsTs_ren{P:Int→Prop}{g:Int→Int}(hg:NZ g)(hi:∀ u v,P u→P v→g u=g v→u=v):∀ {t:List TyT}{l:List Int},VTs P t→(∀ u ∈ l,P u)→varsTs (renTs g t) (l.map g)=(varsTs t l).map g∧∀ u ∈ varsTs t l,P u
 | [],_,_,hl=>⟨rfl,hl⟩
 | x::xs,l,h,hl=>by
  rw[VTs] at h
  rw[renTs,varsTs,varsTs]
  obtain⟨e1,p1⟩:=vars_ren hg hi h.1 hl
  rw[e1];exact varsTs_ren hg hi h.2 p1
theorem varsFs_ren{P:Int→Prop}{g:Int→Int}(hg:NZ g)(hi:∀ u v,P u→P v→g u=g v→u=v):∀ {t:List Fd}{l:List Int},VFs P t→(∀ u ∈ l,P u)→varsFs (renFs g t) (l.map g)=(varsFs t l).map g∧∀ u ∈ varsFs t l,P u
 | [],_,_,hl=>⟨rfl,hl⟩
 | x::xs,l,h,hl=>by
  rw[VFs] at h
  rw[renFs,varsFs,varsFs]
  obtain⟨e1,p1⟩:=varsF_ren hg hi h.1 hl
  rw[e1];exact varsFs_ren hg hi h.2 p1
theorem varsF_ren{P:Int→Prop}{g:Int→Int}(hg:NZ g)(hi:∀ u v,P u→P v→g u=g v→u=v):∀ {t:Fd}{l:List Int},VF P t→(∀ u ∈ l,P u)→varsF (renF g t) (l.map g)=(varsF t l).map g∧∀ u ∈ varsF t l,P u
 | ⟨lb,pr,p,t⟩,l,h,hl=>by
  rw[VF] at h
  rw[renF,varsF,varsF]
  have h1:onceI (pr==2) (l.map g) (if pr=2 then g p else p)=(onceI (pr==2) l p).map g∧∀ u ∈ onceI (pr==2) l p,P u:=by
   by_cases e:pr=2
   ·rw[if_pos e];exact onceI_ren hi (fun _=>h.1 e) hl
   ·have:(pr==2)=false:=beq_eq_false_iff_ne.2 e
    rw[this];exact⟨rfl,hl⟩
  rw[h1.1]
  exact vars_ren hg hi h.2 h1.2
end
mutual
theorem ren_ext{f h:Int→Int}:∀ {t:TyT},VT (fun u=>f u=h u) t→ren f t=ren h t
 | .mk k v args fs rest,e=>by
  rw[VT] at e
  rw[ren,ren,renTs_ext e.2.1,renFs_ext e.2.2.1]
  have h1:(if k=1 then f v else v)=if k=1 then h v else v:=by
   split
   ·rename_i c;exact e.1 c
   ·rfl
  have h2:(if rest=0 then 0 else f rest)=if rest=0 then 0 else h rest:=by
   split
   ·rfl
   ·rename_i c;exact e.2.2.2 c
  rw[h1,h2]
theorem renTs_ext{f h:Int→Int}:∀ {t:List TyT},VTs (fun u=>f u=h u) t→renTs f t=renTs h t
 | [],_=>rfl
 | x::l,e=>by rw[VTs] at e;rw[renTs,renTs,ren_ext e.1,renTs_ext e.2]
theorem renFs_ext{f h:Int→Int}:∀ {t:List Fd},VFs (fun u=>f u=h u) t→renFs f t=renFs h t
 | [],_=>rfl
 | x::l,e=>by rw[VFs] at e;rw[renFs,renFs,renF_ext e.1,renFs_ext e.2]
theorem renF_ext{f h:Int→Int}:∀ {t:Fd},VF (fun u=>f u=h u) t→renF f t=renF h t
 | ⟨lb,pr,p,t⟩,e=>by
  rw[VF] at e
  rw[renF,renF,ren_ext e.2]
  by_cases c:pr=2
  ·rw[if_pos c,if_pos c,e.1 c]
  ·rw[if_neg c,if_neg c]
end
mutual
theorem ren_ren{f g:Int→Int}(hg:NZ g):∀ t:TyT,ren f (ren g t)=ren (fun u=>f (g u)) t
 | .mk k v args fs rest=>by
  rw[ren,ren,ren,renTs_ren hg args,renFs_ren hg fs]
  have h1:(if k=1 then f (if k=1 then g v else v)else if k=1 then g v else v)=if k=1 then f (g v)else v:=by
   by_cases e:k=1
   ·simp only[if_pos e]
   ·simp only[if_neg e]
  have h2:(if (if rest=0 then 0 else g rest)=0 then 0 else f (if rest=0 then 0 else g rest))=if rest=0 then 0 else f (g rest):=by
   by_cases e:rest=0
   ·simp only[if_pos e,if_true]
   ·simp only[if_neg e,if_neg (hg _ e)]
  rw[h1,h2]
theorem renTs_ren{f g:Int→Int}(hg:NZ g):∀ t:List TyT,renTs f (renTs g t)=renTs (fun u=>f (g u)) t
 | []=>rfl
 | x::l=>by rw[renTs,renTs,renTs,ren_ren hg x,renTs_ren hg l]
theorem renFs_ren{f g:Int→Int}(hg:NZ g):∀ t:List Fd,renFs f (renFs g t)=renFs (fun u=>f (g u)) t
 | []=>rfl
 | x::l=>by rw[renFs,renFs,renFs,renF_ren hg x,renFs_ren hg l]
theorem renF_ren{f g:Int→Int}(hg:NZ g):∀ t:Fd,renF f (renF g t)=renF (fun u=>f (g u)) t
 | ⟨lb,pr,p,t⟩=>by
  rw[renF,renF,renF,ren_ren hg t]
  by_cases e:pr=2
  ·simp only[if_pos e]
  ·simp only[if_neg e]
end
def idx:List Int→Int→Int
 | [],_=>1
 | x::l,v=>if x=v then 1 else 1+idx l v
theorem idx_ren{P:Int→Prop}{g:Int→Int}(hi:∀ u v,P u→P v→g u=g v→u=v){v:Int}(hv:P v):∀ {l:List Int},(∀ u ∈ l,P u)→idx (l.map g) (g v)=idx l v
 | [],_=>rfl
 | x::l,h=>by
  rw[List.map_cons,idx,idx,idx_ren hi hv (fun u hu=>h u (by simp[hu]))]
  by_cases e:x=v
  ·rw[if_pos e,if_pos (by rw[e])]
  ·rw[if_neg e,if_neg (fun c=>e (hi x v (h x (by simp)) hv c))]
def canon(t:TyT):TyT:=ren (idx (varsT t [])) t
theorem canon_ren{P:Int→Prop}{g:Int→Int}(hg:NZ g)(hi:∀ u v,P u→P v→g u=g v→u=v){t:TyT}(h:VT P t):canon (ren g t)=canon t:=by
 obtain⟨e,p⟩:=vars_ren hg hi (l:=[]) h (fun u hu=>by cases hu)
 unfold canon
 rw[show varsT (ren g t) []=(varsT t []).map g from e,ren_ren hg]
 exact ren_ext (vt_mono (fun u hu=>idx_ren hi hu p) h)
theorem sim_start{sw:Bool}{g:Int→Int}{G H:Ctx}{A B:Ab}(hA:AOk G A)(hB:AOk H B)(sa:A.s = .one)(sb:B.s = .one)(va:(if sw then B.b else B.a)=ren g A.a)(vb:(if sw then B.a else B.b)=ren g A.b)(nz:NZ g)(hg:∀ u,G u≠.no→H (g u)=G u)(hi:∀ u v,G u≠.no→G v≠.no→g u=g v→u=v):Sim sw g G A H B:=by
 have wb:WfT H (if sw then B.b else B.a)∧WfT H (if sw then B.a else B.b):=by
  cases sw
  ·exact⟨hB.wa,hB.wb⟩
  ·exact⟨hB.wb,hB.wa⟩
 refine⟨hA,hB,nz,fun u hu=>⟨hg u hu.1,by rw[hg u hu.1];exact hu.1,by rw[sb];rfl,by rw[sb];rfl,by rw[sb];rfl⟩,fun u v hu hv e=>hi u v hu.1 hv.1 e,?_,?_⟩
 ·rw[sa,sb,one_ap hA.wa,one_ap wb.1,va]
 ·rw[sa,sb,one_ap hA.wb,one_ap wb.2,vb]
theorem sim_canon{sw:Bool}{g g1:Int→Int}{G G1 H1:Ctx}{A B A1 B1:Ab}(s:Sim sw g1 G1 A1 H1 B1)(t:Tr G g A B g1 A1 B1)(l:Le G G1){x x':TyT}(hw:WfT G x)(hv:ap B.s x'=ren g (ap A.s x)):canon (ap B1.s x')=canon (ap A1.s x):=by
 rw[t.t x x' hw hv]
 exact canon_ren s.nz s.inj (vt_lv s.oa (ap_fix s.oa.so x) (ap_wf s.oa.sw (wfT_le l hw)))
theorem unify_names{G H:Ctx}{g:Int→Int}{A B:Ab}{a b:TyT}{m m':Int}{n n':Nat}{r q:Int×Ab}(sa:A.s = .one)(sb:B.s = .one)(hA:AOk G ⟨.one,m,a,b⟩)(hB:AOk H ⟨.one,m',ren g a,ren g b⟩)(nz:NZ g)(hg:∀ u,G u≠.no→H (g u)=G u)(hi:∀ u v,G u≠.no→G v≠.no→g u=g v→u=v)
  (hr:Unify n A a b m=some r) (hq:Unify n' B (ren g a) (ren g b) m'=some q):r.1=q.1∧(r.1=0→canon (ap q.2.s (ren g a))=canon (ap r.2.s a)):=by
 have S:Sim false g G ⟨.one,m,a,b⟩ H ⟨.one,m',ren g a,ren g b⟩:=sim_start hA hB rfl rfl rfl rfl nz hg hi
 unfold Unify at hr hq
 rw[sa] at hr
 rw[sb] at hq
 dsimp only at hr hq
 rw[grown_sim S.va S.vb] at hq
 by_cases hg:Ab.grown ⟨.one,m,a,b⟩≠0
 ·rw[if_pos hg] at hr hq
  cases hr;cases hq
  exact⟨rfl,fun e=>absurd e hg⟩
 ·rw[if_neg hg] at hr hq
  have va:ap .one (ren g a)=ren g (ap .one a):=S.va
  have vb:ap .one (ren g b)=ren g (ap .one b):=S.vb
  have:=(si_all n).1 false g G _ H _ a b (ren g a) (ren g b) r n' q S hA.wa hA.wb hB.wa hB.wb va vb hr hq
  rcases this with⟨c,_⟩| ⟨c1,c2,c3⟩| ⟨c1,c2,g1,G1,H1,s,t,l,_⟩
  ·cases c
  ·exact⟨c3 rfl,fun e=>absurd e c1⟩
  ·exact⟨c1.trans c2.symm,fun _=>sim_canon s t l hA.wa va⟩
theorem wf_fnT{G:Ctx}{a b:TyT}:WfT G (fnT a b)↔WfT G a∧WfT G b:=by
 unfold fnT
 rw[WfT,WfTs,WfTs,WfTs,WfFs,if_neg (by decide)]
 constructor
 ·rintro⟨_,_,_,⟨h1,h2,_⟩,_⟩;exact⟨h1,h2⟩
 ·rintro⟨h1,h2⟩;exact⟨rfl,fun c=>(by cases c),fun _=>rfl,⟨h1,h2,trivial⟩,trivial,rfl,rfl⟩
theorem onceI_P{P:Int→Prop}{b:Bool}{l:List Int}{v:Int}(hv:b=true→P v)(hl:∀ u ∈ l,P u):∀ u ∈ onceI b l v,P u:=by
 intro u hu
 unfold onceI at hu
 split at hu
 ·rename_i c
  rcases List.mem_append.1 hu with d|d
  ·exact hl u d
  ·rw[List.mem_singleton.1 d];exact hv c.1
 ·exact hl u hu
mutual
theorem vars_P{P:Int→Prop}:∀ {t:TyT}{l:List Int},VT P t→(∀ u ∈ l,P u)→∀ u ∈ varsT t l,P u
 | .mk k v args fs rest,l,h,hl=>by
  rw[VT] at h
  rw[varsT]
  exact onceI_P (fun c=>h.2.2.2 (bne_iff_ne.1 c)) (varsFs_P h.2.2.1 (varsTs_P h.2.1 (onceI_P (fun c=>h.1 (beq_iff_eq.1 c)) hl)))
theorem varsTs_P{P:Int→Prop}:∀ {t:List TyT}{l:List Int},VTs P t→(∀ u ∈ l,P u)→∀ u ∈ varsTs t l,P u
 | [],_,_,hl=>hl
 | x::xs,l,h,hl=>by rw[VTs] at h;rw[varsTs];exact varsTs_P h.2 (vars_P h.1 hl)
theorem varsFs_P{P:Int→Prop}:∀ {t:List Fd}{l:List Int},VFs P t→(∀ u ∈ l,P u)→∀ u ∈ varsFs t l,P u
 | [],_,_,hl=>hl
 | x::xs,l,h,hl=>by rw[VFs] at h;rw[varsFs];exact varsFs_P h.2 (varsF_P h.1 hl)
theorem varsF_P{P:Int→Prop}:∀ {t:Fd}{l:List Int},VF P t→(∀ u ∈ l,P u)→∀ u ∈ varsF t l,P u
 | ⟨lb,pr,p,t⟩,l,h,hl=>by rw[VF] at h;rw[varsF];exact vars_P h.2 (onceI_P (fun c=>h.1 (beq_iff_eq.1 c)) hl)
end
mutual
theorem vt_ren{P:Int→Prop}{g:Int→Int}(hg:NZ g):∀ {t:TyT},VT P (ren g t)→VT (fun u=>P (g u)) t
 | .mk k v args fs rest,h=>by
  rw[ren,VT] at h
  rw[VT]
  refine⟨fun c=>?_,vts_ren hg h.2.1,vfs_ren hg h.2.2.1,fun c=>?_⟩
  ·have:=h.1 c;rw[if_pos c] at this;exact this
  ·have:=h.2.2.2 (by rw[if_neg c];exact hg _ c);rw[if_neg c] at this;exact this
theorem vts_ren{P:Int→Prop}{g:Int→Int}(hg:NZ g):∀ {t:List TyT},VTs P (renTs g t)→VTs (fun u=>P (g u)) t
 | [],_=>trivial
 | x::l,h=>by rw[renTs,VTs] at h;rw[VTs];exact⟨vt_ren hg h.1,vts_ren hg h.2⟩
theorem vfs_ren{P:Int→Prop}{g:Int→Int}(hg:NZ g):∀ {t:List Fd},VFs P (renFs g t)→VFs (fun u=>P (g u)) t
 | [],_=>trivial
 | x::l,h=>by rw[renFs,VFs] at h;rw[VFs];exact⟨vf_ren hg h.1,vfs_ren hg h.2⟩
theorem vf_ren{P:Int→Prop}{g:Int→Int}(hg:NZ g):∀ {t:Fd},VF P (renF g t)→VF (fun u=>P (g u)) t
 | ⟨lb,pr,p,t⟩,h=>by
  rw[renF,VF] at h
  rw[VF]
  exact⟨fun c=>by have:=h.1 c;rw[if_pos c] at this;exact this,vt_ren hg h.2⟩
end
mutual
theorem wf_ren{G H:Ctx}{g:Int→Int}(hp:∀ u,G u≠.no→1≤g u)(hh:∀ u,G u≠.no→H (g u)=G u):∀ {t:TyT},WfT G t→WfT H (ren g t)
 | .mk k v args fs rest,h=>by
  rw[WfT] at h
  rw[ren,WfT]
  refine⟨by rw[renTs_map,List.length_map];exact h.1,fun c=>?_,fun c=>by rw[if_neg c];exact h.2.2.1 c,wfTs_ren hp hh h.2.2.2.1,wfFs_ren hp hh h.2.2.2.2.1,?_⟩
  ·have hv:G v≠.no:=by rw[(h.2.1 c).2];simp
   rw[if_pos c,hh v hv];exact⟨hp v hv,(h.2.1 c).2⟩
  ·have h6:=h.2.2.2.2.2
   by_cases h2:rwd k=true
   ·rw[if_pos h2] at h6 ⊢
    have hz:(if rest=0 then (0:Int)else g rest)=0↔rest=0:=by
     by_cases e:rest=0
     ·rw[if_pos e];simp[e]
     ·rw[if_neg e]
      rcases h6.2.2 with c|⟨c1,L,c2,_⟩
      ·exact absurd c e
      ·have:=hp rest (by rw[c2];simp)
       constructor <;>(intro;omega)
    refine⟨by rw[labs_ren];exact h6.1,fun f hf=>?_,?_⟩
    ·rw[renFs_map] at hf
     obtain⟨f0,h0,rfl⟩:=List.mem_map.1 hf
     rw[renF_lb,renF_pr]
     obtain⟨k1,k2,k3⟩:=h6.2.1 f0 h0
     exact⟨k1,k2,fun e c=>k3 e (hz.1 c)⟩
    ·rcases h6.2.2 with c|⟨c1,L,c2,c3,c4⟩
     ·exact .inl (hz.2 c)
     ·have hn:G rest≠.no:=by rw[c2];simp
      have hr:=hp rest hn
      refine .inr ?_
      rw[if_neg (by omega)]
      exact⟨hr,L,(hh rest hn).trans c2,c3,fun x=>by rw[labs_ren];exact c4 x⟩
   ·rw[if_neg h2] at h6 ⊢
    rw[h6.1,h6.2];exact⟨rfl,if_pos rfl⟩
theorem wfTs_ren{G H:Ctx}{g:Int→Int}(hp:∀ u,G u≠.no→1≤g u)(hh:∀ u,G u≠.no→H (g u)=G u):∀ {t:List TyT},WfTs G t→WfTs H (renTs g t)
 | [],_=>trivial
 | x::l,h=>by rw[WfTs] at h;rw[renTs,WfTs];exact⟨wf_ren hp hh h.1,wfTs_ren hp hh h.2⟩
theorem wfFs_ren{G H:Ctx}{g:Int→Int}(hp:∀ u,G u≠.no→1≤g u)(hh:∀ u,G u≠.no→H (g u)=G u):∀ {t:List Fd},WfFs G t→WfFs H (renFs g t)
 | [],_=>trivial
 | x::l,h=>by rw[WfFs] at h;rw[renFs,WfFs];exact⟨wfF_ren hp hh h.1,wfFs_ren hp hh h.2⟩
theorem wfF_ren{G H:Ctx}{g:Int→Int}(hp:∀ u,G u≠.no→1≤g u)(hh:∀ u,G u≠.no→H (g u)=G u):∀ {t:Fd},WfF G t→WfF H (renF g t)
 | ⟨lb,pr,p,t⟩,h=>by
  rw[WfF] at h
  rw[renF,WfF]
  rcases h with⟨rfl,rfl,rfl⟩| ⟨rfl,rfl,ht⟩| ⟨rfl,h1,h2,ht⟩
  ·exact .inl ⟨rfl,rfl,rfl⟩
  ·exact .inr (.inl ⟨rfl,rfl,wf_ren hp hh ht⟩)
  ·have hn:G p≠.no:=by rw[h2];simp
   exact .inr (.inr ⟨rfl,by rw[if_pos rfl];exact hp p hn,by rw[if_pos rfl,hh p hn,h2],wf_ren hp hh ht⟩)
end
def ctxOf(G:Ctx)(l:List Int)(g:Int→Int):Ctx:=fun y=>match l.find? (fun x=>g x==y)with
 | some x=>G x
 | none => .no
theorem ctxOf_no{G:Ctx}{l:List Int}{g:Int→Int}{y:Int}(h:ctxOf G l g y≠.no):∃ x ∈ l,g x=y∧ctxOf G l g y=G x:=by
 unfold ctxOf at h ⊢
 cases e:l.find? (fun x=>g x==y)with
 | none=>rw[e] at h;exact absurd rfl h
 | some x=>exact⟨x,List.mem_of_find?_eq_some e,by simpa using List.find?_some e,rfl⟩
theorem ctxOf_at{G:Ctx}{l:List Int}{g:Int→Int}(hi:∀ u ∈ l,∀ v ∈ l,g u=g v→u=v){u:Int}(hu:u ∈ l):ctxOf G l g (g u)=G u:=by
 unfold ctxOf
 cases e:l.find? (fun x=>g x==g u)with
 | none=>have:=List.find?_eq_none.1 e u hu;simp at this
 | some x=>rw[hi x (List.mem_of_find?_eq_some e) u hu (by simpa using List.find?_some e)]
theorem names_ready{G:Ctx}{a b:TyT}{g:Int→Int}{l:List Int}(hl:l=varsT (fnT a b) [])(hp:Pos G)(hr:Rise G)(wa:WfT G a)(wb:WfT G b)(hs:∀ u,G u≠.no→u ∈ l)(hg:∀ u ∈ l,1≤g u)(hi:∀ u ∈ l,∀ v ∈ l,g u=g v→u=v)(nz:NZ g):
  AOk G ⟨.one,seenT b (seenT a 0),a,b⟩∧AOk (ctxOf G l g) ⟨.one,seenT (ren g b) (seenT (ren g a) 0),ren g a,ren g b⟩∧(∀ u,G u≠.no→ctxOf G l g (g u)=G u)∧(∀ u v,G u≠.no→G v≠.no→g u=g v→u=v):=by
 have hh:∀ u,G u≠.no→ctxOf G l g (g u)=G u:=fun u hu=>ctxOf_at hi (hs u hu)
 have hpp:∀ u,G u≠.no→1≤g u:=fun u hu=>hg u (hs u hu)
 have top:∀ {P:Int→Prop},VT P a→VT P b→∀ u ∈ l,P u:=fun{P} h1 h2=>by
  rw[hl]
  refine vars_P (P:=P) ?_ (fun u hu=>by cases hu)
  unfold fnT
  rw[VT,VTs,VTs,VTs,VFs]
  exact⟨fun c=>(by cases c),⟨h1,h2,trivial⟩,trivial,fun c=>absurd rfl c⟩
 have z0:∀ x y:TyT,(0:Int)≤seenT y (seenT x 0):=fun x y=>Int.le_trans (seen_le x 0) (seen_le y _)
 refine⟨aok_one hp hr wa wb (fun v hv=>?_) (z0 a b),aok_one (fun y hy=>?_) (fun y k L hy=>?_) (wf_ren hpp hh wa) (wf_ren hpp hh wb) (fun y hy=>?_) (z0 _ _),hh,fun u v hu hv=>hi u (hs u hu) v (hs v hv)⟩
 ·refine Classical.byContradiction (fun c=>?_)
  have:=top (P:=(·≤seenT b (seenT a 0))) (vt_mono (fun u hu=>Int.le_trans hu (seen_le b _)) (seen_vt a 0)) (seen_vt b _) v (hs v c)
  omega
 ·obtain⟨x,hx,e,_⟩:=ctxOf_no hy
  rw[← e];exact hg x hx
 ·obtain⟨x,hx,e,e2⟩:=ctxOf_no (y:=y) (by rw[hy];simp)
  rw[e2] at hy;exact hr x k L hy
 ·refine Classical.byContradiction (fun c=>?_)
  obtain⟨x,hx,e,_⟩:=ctxOf_no c
  have:=top (P:=fun u=>g u≤seenT (ren g b) (seenT (ren g a) 0)) (vt_ren nz (vt_mono (fun u hu=>Int.le_trans hu (seen_le _ _)) (seen_vt (ren g a) 0))) (vt_ren nz (seen_vt (ren g b) _)) x hx
  omega
theorem onceI_nd{b:Bool}{l:List Int}{v:Int}(h:l.Nodup):(onceI b l v).Nodup:=by
 unfold onceI
 split
 ·rename_i c
  exact List.nodup_append.2 ⟨h,by simp,fun a ha b hb=>by simp at hb;rintro rfl;subst hb;exact c.2 ha⟩
 ·exact h
def numL:List Int→List Int→Int→Int
 | x::l,y::m,v=>if x=v then y else numL l m v
 | _,_,v=>v
theorem numL_idx:∀ (l:List Int)(k:Int)(v:Int),v ∈ l→numL l ((List.range l.length).map (fun i=>k+(i:Nat))) v=idx l v+k-1
 | [],k,v,h=>by simp at h
 | x::l,k,v,h=>by
  rw[List.length_cons,List.range_succ_eq_map,List.map_cons,List.map_map,numL,idx]
  by_cases e:x=v
  ·rw[if_pos e,if_pos e];simp;omega
  ·rw[if_neg e,if_neg e]
   have h1:v ∈ l:=by rcases List.mem_cons.1 h with c|c;exact absurd c.symm e;exact c
   have h2:=numL_idx l (k+1) v h1
   have h3:((fun i:Nat=>k+(i:Int)) ∘ Nat.succ)=(fun i:Nat=>k+1+(i:Int)):=by funext i;simp;omega
   rw[h3,h2];omega
theorem numL_nz{l m:List Int}(h:∀ y ∈ m,y≠0):NZ (numL l m):=by
 intro r hr
 induction l generalizing m with
 | nil=>simpa [numL] using hr
 | cons x l ih =>
  cases m with
  | nil=>simpa [numL] using hr
  | cons y m =>
   rw[numL]
   split
   ·exact h y (by simp)
   ·exact ih (fun z hz=>h z (by simp[hz]))
theorem numL_at:∀ {l m:List Int}{i:Nat}{v:Int},l.Nodup→l.length=m.length→l[i]?=some v→m[i]?=some (numL l m v)
 | [],_,i,v,_,_,h=>by simp at h
 | x::l,[],i,v,_,he,h=>by simp at he
 | x::l,y::m,0,v,_,_,h=>by simp at h;subst h;simp[numL]
 | x::l,y::m,i+1,v,hn,he,h=>by
  simp only[List.getElem?_cons_succ] at h
  rw[List.nodup_cons] at hn
  rw[numL,if_neg (fun e=>hn.1 (by rw[e];exact List.mem_of_getElem? h)),List.getElem?_cons_succ]
  exact numL_at hn.2 (by simpa using he) h
mutual
theorem gvT_nd:∀ (t:TyT){l:List Int},l.Nodup→(varsT t l).Nodup
 | .mk k v args fs rest,l,h=>by rw[varsT];exact onceI_nd (gvFs_nd fs (gvTs_nd args (onceI_nd h)))
theorem gvTs_nd:∀ (t:List TyT){l:List Int},l.Nodup→(varsTs t l).Nodup
 | [],_,h=>h
 | x::xs,l,h=>by rw[varsTs];exact gvTs_nd xs (gvT_nd x h)
theorem gvFs_nd:∀ (t:List Fd){l:List Int},l.Nodup→(varsFs t l).Nodup
 | [],_,h=>h
 | x::xs,l,h=>by rw[varsFs];exact gvFs_nd xs (gvF_nd x h)
theorem gvF_nd:∀ (t:Fd){l:List Int},l.Nodup→(varsF t l).Nodup
 | ⟨lb,pr,p,t⟩,l,h=>by rw[varsF];exact gvT_nd t (onceI_nd h)
end
theorem canon_num{t:TyT}:ren (numL (varsT t []) ((List.range (varsT t []).length).map (fun i=>1+(i:Nat)))) t=canon t:=by
 unfold canon
 refine ren_ext (vt_mono (fun u hu=>?_) (vars_in t []))
 rw[numL_idx _ _ _ hu];omega
section
attribute [local go_sem ↓] Go.wp_at_zero Go.wp_at_succ
section
variable [LoB]
attribute [local instance] Ex.no
theorem number_any{W:World}{X Y:Option Addr}{cx cy:Nat}{l m:List Int}(h:IntsAt W X l)(hm:IntsAt W Y m)(hl:l.length=m.length)(hl2:l.length≤1073741824)(v:Int):
  Calls Tryz.prog 36 #[.slice X l.length cx,.slice Y m.length cy,.int .i64 v] W fun e w'=>e = .returned (.int .i64 (numL l m v))∧w'=W:=by
 have H:=Lib.hid h
 have HM:=Lib.hid hm
 have HL:=Lib.hid hl
 have q0:(l.length:Int)=m.length:=by omega
 clear h hm hl
 go_enter Tryz.func36,Tryz.ntmps36
 go_wp2_with fail
 go_loopw [7] (fun iv wr=>∃ i:Nat,iv = .int .i64 i∧wr=W∧i≤l.length∧Hid (numL l m v=numL (l.drop i) (m.drop i) v)) (fun iv wr=>l.length-(intOf iv).toNat)
 case atStart=>exact⟨0,rfl,rfl,by omega,Lib.hid rfl⟩
 case round =>
  obtain⟨i,rfl,rfl,hi,HV⟩:=hrel
  have q1:(0:Int)≤(i:Int):=by omega
  by_cases hlt:i<l.length
  ·have hlm:i<m.length:=by have:=HL.out;omega
   have hx:l[i]?=some l[i]:=List.getElem?_eq_getElem hlt
   have hy:m[i]?=some m[i]:=List.getElem?_eq_getElem hlm
   have hd:numL (l.drop i) (m.drop i) v=if l[i]=v then m[i] else numL (l.drop (i+1)) (m.drop (i+1)) v:=by
    rw[List.drop_eq_getElem_cons hlt,List.drop_eq_getElem_cons hlm,numL]
   generalize l[i]=x at hx hd
   generalize m[i]=y at hy hd
   obtain⟨g,rfl,hg,x0⟩:=H.out.at hx
   obtain⟨g',rfl,hg',y0⟩:=HM.out.at hy
   have q2:(i:Int)<(l.length:Int):=by omega
   have q4:(i:Int)<(m.length:Int):=by omega
   clear hx hy
   by_cases e:x=v
   ·have q3:(x==v)=true:=by simp[e]
    rw[if_pos e] at hd
    have HD:=Lib.hid (HV.out.trans hd)
    clear e hd
    go_wp2_with fail
    go_ret
    exact⟨by rw[HD.out];rfl,rfl⟩
   ·have q3:(x==v)=false:=beq_eq_false_iff_ne.2 e
    rw[if_neg e] at hd
    have HD:=Lib.hid (HV.out.trans hd)
    clear e hd
    go_wp2_with fail
    go_roundw
    case rel=>exact⟨i+1,by first|rfl|simp|go_num,by first|rfl|trivial,by omega,HD⟩
    case measure=>simp[intOf];omega
  ·have q2:¬ (i:Int)<(l.length:Int):=by omega
   have hd:numL l m v=v:=by
    have:=HV.out
    rw[List.drop_of_length_le (by omega)] at this
    rw[this];simp[numL]
   have HD:=Lib.hid hd
   clear hd
   go_wp2_with fail
   go_ret
   exact⟨by rw[HD.out];rfl,rfl⟩
end
end
def toL(n:Nat):List Int:=(List.range n).map (fun i:Nat=>3 *(n:Int)-2 *(i:Int))
theorem toL_at{n i:Nat}(h:i<n):(toL n)[i]?=some (3 *(n:Int)-2 *(i:Int)):=by
 unfold toL
 rw[List.getElem?_map,List.getElem?_range h];rfl
theorem toL_len(n:Nat):(toL n).length=n:=by simp[toL]
theorem names_to{l:List Int}(hn:l.Nodup):(∀ u ∈ l,1≤numL l (toL l.length) u)∧(∀ u ∈ l,∀ v ∈ l,numL l (toL l.length) u=numL l (toL l.length) v→u=v)∧NZ (numL l (toL l.length)):=by
 have key:∀ u ∈ l,∃ i,i<l.length∧l[i]?=some u∧numL l (toL l.length) u=3 *(l.length:Int)-2 *(i:Int):=fun u hu=>by
  obtain⟨i,hi⟩:=List.getElem?_of_mem hu
  have hl:=(List.getElem?_eq_some_iff.1 hi).1
  have h1:=numL_at (m:=toL l.length) hn (toL_len _).symm hi
  rw[toL_at hl] at h1
  exact⟨i,hl,hi,(Option.some.inj h1).symm⟩
 refine⟨fun u hu=>?_,fun u hu v hv e=>?_,numL_nz (fun y hy=>?_)⟩
 ·obtain⟨i,h1,_,h3⟩:=key u hu
  rw[h3];omega
 ·obtain⟨i,h1,h2,h3⟩:=key u hu
  obtain⟨j,k1,k2,k3⟩:=key v hv
  rw[h3,k3] at e
  have:i=j:=by omega
  subst this
  rw[h2] at k2
  exact Option.some.inj k2
 ·obtain⟨i,hi⟩:=List.getElem?_of_mem hy
  have hl:=(List.getElem?_eq_some_iff.1 hi).1
  rw[toL_len] at hl
  rw[toL_at hl] at hi
  have:=Option.some.inj hi
  omega
section
attribute [local go_sem ↓] Go.wp_at_zero Go.wp_at_succ
section
variable [LoB]
attribute [local instance] Ex.no
theorem SolW.beside{w w':World}{P:List UInt8→Prop}{Q:Nat}{M0 M1 M2:Option Nat}{G:Ctx}{R:Raw}{s:Sub}{m:Int}{ta tb:TyT}(h:SolW w P Q M0 M1 M2 G R s m ta tb){L:List Nat}(hf:Fr L w w')(hL:∀ x ∈ L,¬ okW w x)(hd:∀ x ∈ solL Q M0 M1 M2,x ∉ L):SolW w' P Q M0 M1 M2 G R s m ta tb:=h.most (h.at_.frL hf hL hd)
end
end
end Go.Proofs.YtoimdiballicnaaGreatDoor
