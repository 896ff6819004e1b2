/- What was unified can be unified again, and nothing is known more: proved for every input. -/
import Derived.Test.YtoimdiballicnaaGreatDoorHb11
namespace Go.Proofs.YtoimdiballicnaaGreatDoor
open Go.RowKit
set_option linter.all false
set_option maxHeartbeats 16000000
set_option maxRecDepth 100000
def SaT(n:Nat):Prop:=∀ A x y r,SubOk A.s→ap A.s x=ap A.s y→uni n A x y=some r→r=(0,A)
def SaL(n:Nat):Prop:=∀ A l r,SubOk A.s→uniL n A l l=some r→r=(0,A)
def SaR(n:Nat):Prop:=∀ A F ra Gs rb r,SubOk A.s→apRow A.s F ra=apRow A.s Gs rb→uniR n A F ra Gs rb=some r→r=(0,A)
def SaM(n:Nat):Prop:=∀ A q ls r,SubOk A.s→uniM n A q q ls=some r→r=(0,A)
def SaX(n:Nat):Prop:=∀ A q x r,SubOk A.s→uniX n A q q x=some r→r=(0,A)
theorem only_none(F:List Fd):∀ ls,onlyL F F ls=[]
 | []=>rfl
 | x::ls=>by
  rw[onlyL]
  split
  ·rename_i h1 h2;rw[h1] at h2;cases h2
  ·exact only_none F ls
theorem sa_all:∀ n,SaT n∧SaL n∧SaR n∧SaM n∧SaX n
 | 0=>⟨(fun _ _ _ _ _ _ h=>by rw[uni] at h;cases h),(fun _ _ _ _ h=>by rw[uniL] at h;cases h),(fun _ _ _ _ _ _ _ _ h=>by rw[uniR] at h;cases h),(fun _ _ _ _ _ h=>by rw[uniM] at h;cases h),(fun _ _ _ _ _ h=>by rw[uniX] at h;cases h)⟩
 | n+1=>by
  obtain⟨hT,hL,hR,hM,hX⟩:=sa_all n
  refine⟨fun A x y r hs he h=>?_,fun A l r hs h=>?_,fun A F ra Gs rb r hs he h=>?_,fun A q ls r hs h=>?_,fun A q x r hs h=>?_⟩
  ·rw[uni,he] at h
   by_cases c2:(ap A.s y).k=1
   ·rw[if_pos ⟨c2,c2,rfl⟩] at h;exact(Option.some.inj h).symm
   ·rw[if_neg (fun c=>c2 c.1),if_neg c2,if_neg c2,if_neg (by simp)] at h
    cases hu:uniL n A (ap A.s y).args (ap A.s y).args with
    | none=>rw[hu] at h;cases h
    | some q =>
     have:=hL _ _ _ hs hu
     subst this
     rw[hu] at h
     dsimp only at h
     rw[if_neg (by simp)] at h
     split at h
     ·exact hR _ _ _ _ _ _ hs rfl h
     ·exact(Option.some.inj h).symm
  ·cases l with
   | nil=>rw[uniL] at h;exact(Option.some.inj h).symm;all_goals simp
   | cons x l =>
    rw[uniL] at h
    cases hu:uni n A x x with
    | none=>rw[hu] at h;cases h
    | some q =>
     have:=hT _ _ _ _ hs rfl hu
     subst this
     rw[hu] at h
     dsimp only at h
     rw[if_neg (by simp)] at h
     exact hL _ _ _ hs h
  ·rw[uniR,he] at h
   have fq:=(apRow_fix hs Gs rb).2.1
   generalize apRow A.s Gs rb=p at *
   cases hu:uniM n A p p (lsOf p.1 p.1)with
   | none=>rw[hu] at h;cases h
   | some q =>
    have:=hM _ _ _ _ hs hu
    subst this
    rw[hu] at h
    dsimp only at h
    have ht:told A p.2=false:=by unfold told;rw[fq];simp
    rw[if_neg (by simp),ht,if_neg (by simp),only_none] at h
    have:restsA A p.2 p.2 [] []=(0,A):=by unfold restsA;rw[if_pos rfl,if_neg (by simp)]
    rw[this] at h
    exact(Option.some.inj h).symm
  ·cases ls with
   | nil=>rw[uniM] at h;exact(Option.some.inj h).symm
   | cons x ls =>
    rw[uniM] at h
    cases hu:uniX n A q q x with
    | none=>rw[hu] at h;cases h
    | some r1 =>
     have:=hX _ _ _ _ hs hu
     subst this
     rw[hu] at h
     dsimp only at h
     rw[if_neg (by simp)] at h
     exact hM _ _ _ _ hs h
  ·rw[uniX] at h
   cases h1:fnd x q.1 with
   | none=>rw[h1] at h;exact(Option.some.inj h).symm
   | some f =>
    rw[h1] at h
    dsimp only at h
    have:presA A (apF A.s f) (apF A.s f)=(0,A):=by
     unfold presA
     by_cases c:(apF A.s f).pr=2
     ·rw[if_pos ⟨c,c,rfl⟩]
     ·rw[if_neg (fun k=>c k.1),if_neg c,if_neg c,if_neg (by simp)]
    rw[this] at h
    dsimp only at h
    split at h
    ·exact(Option.some.inj h).symm
    ·exact hT _ _ _ _ hs rfl h
def Gr0(A:Ab)(r:Int×Ab):Prop:=A.grown=0→r.1=0→r.2.grown=0
theorem put_gr(A:Ab)(u:Sub):Gr0 A (A.put u):=fun _ h=>h
theorem bindA_gr(A:Ab)(v:Int)(t:TyT):Gr0 A (bindA A v t):=by
 unfold bindA;split
 ·exact fun h _=>h
 ·exact put_gr _ _
theorem restA_gr(A:Ab)(v:Int)(fs:List Fd)(r:Int):Gr0 A (restA A v fs r):=by
 unfold restA;split
 ·exact fun h _=>h
 ·exact put_gr _ _
theorem absA_gr(A:Ab)(f:Fd):Gr0 A (absA A f):=by
 unfold absA;split
 ·exact fun h _=>h
 ·split
  ·exact put_gr _ _
  ·exact fun h _=>h
theorem presA_gr(A:Ab)(f g:Fd):Gr0 A (presA A f g):=by
 unfold presA;split
 ·exact fun h _=>h
 ·split
  ·exact put_gr _ _
  ·split
   ·exact put_gr _ _
   ·split <;> exact fun h _=>h
theorem restsA_gr(A:Ab)(a b:Int)(o1 o2:List Fd):Gr0 A (restsA A a b o1 o2):=by
 unfold restsA
 split
 ·split <;> exact fun h _=>h
 ·split
  ·exact restA_gr _ _ _ _
  ·split
   ·exact restA_gr _ _ _ _
   ·split
    ·exact restA_gr _ _ _ _
    ·dsimp only
     have k:=restA_gr { A with most:=A.most+1 } a o2 (A.most+1)
     intro hg he
     split at he
     ·rename_i c;exact absurd he c
     ·rename_i c;rw[if_neg c]
      exact restA_gr _ _ _ _ (k hg (Decidable.not_not.1 c)) he
theorem gr_all:∀ n,(∀ A x y r,uni n A x y=some r→Gr0 A r)∧(∀ A l m r,uniL n A l m=some r→Gr0 A r)∧(∀ A F ra Gs rb r,uniR n A F ra Gs rb=some r→Gr0 A r)∧(∀ A q p ls r,uniM n A q p ls=some r→Gr0 A r)∧(∀ A q p x r,uniX n A q p x=some r→Gr0 A r)
 | 0=>⟨(fun _ _ _ _ h=>by rw[uni] at h;cases h),(fun _ _ _ _ h=>by rw[uniL] at h;cases h),(fun _ _ _ _ _ _ h=>by rw[uniR] at h;cases h),(fun _ _ _ _ _ h=>by rw[uniM] at h;cases h),(fun _ _ _ _ _ h=>by rw[uniX] at h;cases h)⟩
 | n+1=>by
  obtain⟨hT,hL,hR,hM,hX⟩:=gr_all n
  have next:∀ {A:Ab} {r r':Int×Ab} {f:Option (Int×Ab)},Gr0 A r→(if r.1≠0 then some r else f)=some r'→(f=some r'→Gr0 r.2 r')→Gr0 A r':=fun{A r r' f} h hr hk hg he=>by
   by_cases c:r.1≠0
   ·rw[if_pos c] at hr;cases hr;exact absurd he c
   ·rw[if_neg c] at hr;exact hk hr (h hg (Decidable.not_not.1 c)) he
  refine⟨fun A x y r h=>?_,fun A l m r h=>?_,fun A F ra Gs rb r h=>?_,fun A q p ls r h=>?_,fun A q p x r h=>?_⟩
  ·rw[uni] at h
   split at h
   ·cases h;exact fun h _=>h
   ·split at h
    ·cases h;exact bindA_gr _ _ _
    ·split at h
     ·cases h;exact bindA_gr _ _ _
     ·split at h
      ·cases h;exact fun h _=>h
      ·cases hu:uniL n A (ap A.s x).args (ap A.s y).args with
       | none=>rw[hu] at h;cases h
       | some r1 =>
        obtain⟨e,A1⟩:=r1
        rw[hu] at h
        dsimp only at h
        refine next (hL _ _ _ _ hu) h (fun h=>?_)
        split at h
        ·exact hR _ _ _ _ _ _ h
        ·cases h;exact fun h _=>h
  ·cases l with
   | nil=>rw[uniL] at h <;> first|(cases h;exact fun h _=>h)| simp
   | cons x l =>
    cases m with
    | nil=>rw[uniL] at h <;> first|(cases h;exact fun h _=>h)| simp
    | cons y m =>
     rw[uniL] at h
     cases hu:uni n A x y with
     | none=>rw[hu] at h;cases h
     | some r1 =>
      obtain⟨e,A1⟩:=r1
      rw[hu] at h
      dsimp only at h
      exact next (hT _ _ _ _ hu) h (fun h=>hL _ _ _ _ h)
  ·rw[uniR] at h
   cases hu:uniM n A (apRow A.s F ra) (apRow A.s Gs rb) (lsOf (apRow A.s F ra).1 (apRow A.s Gs rb).1)with
   | none=>rw[hu] at h;cases h
   | some r1 =>
    obtain⟨e,A1⟩:=r1
    rw[hu] at h
    dsimp only at h
    refine next (hM _ _ _ _ _ hu) h (fun h=>?_)
    split at h
    ·exact hR _ _ _ _ _ _ h
    ·cases h;exact restsA_gr _ _ _ _ _
  ·cases ls with
   | nil=>rw[uniM] at h;cases h;exact fun h _=>h
   | cons x ls =>
    rw[uniM] at h
    cases hu:uniX n A q p x with
    | none=>rw[hu] at h;cases h
    | some r1 =>
     obtain⟨e,A1⟩:=r1
     rw[hu] at h
     dsimp only at h
     exact next (hX _ _ _ _ _ hu) h (fun h=>hM _ _ _ _ _ h)
  ·rw[uniX] at h
   cases h1:fnd x q.1 with
   | none =>
    rw[h1] at h
    cases h2:fnd x p.1 with
    | none=>rw[h2] at h;cases h;exact fun h _=>h
    | some g =>
     rw[h2] at h
     cases h
     split
     ·exact absA_gr _ _
     ·exact fun h _=>h
   | some f =>
    rw[h1] at h
    cases h2:fnd x p.1 with
    | none =>
     rw[h2] at h
     cases h
     split
     ·exact absA_gr _ _
     ·exact fun h _=>h
    | some g =>
     rw[h2] at h
     dsimp only at h
     have kk:=presA_gr A (apF A.s f) (apF A.s g)
     split at h
     ·cases h;exact kk
     ·rename_i c
      have he:(presA A (apF A.s f) (apF A.s g)).1=0:=Classical.byContradiction (fun h=>c (.inl h))
      exact fun hg h0=>hT _ _ _ _ h (kk hg he) h0
theorem unify_again{G:Ctx}{A A' A2:Ab}{a b x y:TyT}{m m2:Int}{n n2:Nat}{r:Int×Ab}(hA:AOk G ⟨A.s,m,a,b⟩)(hr:Unify n A a b m=some (0,A'))(hs:A2.s=A'.s)(hxy:(x=a∧y=b)∨(x=b∧y=a))(h2:Unify n2 A2 x y m2=some r):r=(0,⟨A'.s,m2,x,y⟩):=by
 obtain⟨G',ad,e⟩:=Unify_same hA hr
 have hg:A'.grown=0:=by
  unfold Unify at hr
  dsimp only at hr
  by_cases c:Ab.grown ⟨A.s,m,a,b⟩≠0
  ·rw[if_pos c] at hr;exact absurd (Prod.mk.inj (Option.some.inj hr)).1 c
  ·rw[if_neg c] at hr
   exact(gr_all n).1 _ _ _ _ hr (Decidable.not_not.1 c) rfl
 have ea:A'.a=a:=ad.ea
 have eb:A'.b=b:=ad.eb
 have hg2:Ab.grown ⟨A'.s,m2,x,y⟩=0:=by
  unfold Ab.grown at hg ⊢
  rw[ea,eb] at hg
  rcases hxy with⟨rfl,rfl⟩| ⟨rfl,rfl⟩
  ·exact hg
  ·rw[e] at hg ⊢;exact hg
 unfold Unify at h2
 rw[hs] at h2
 dsimp only at h2
 rw[if_neg (by rw[hg2];simp)] at h2
 have exy:ap A'.s x=ap A'.s y:=by
  rcases hxy with⟨rfl,rfl⟩| ⟨rfl,rfl⟩
  ·exact e
  ·exact e.symm
 exact(sa_all n2).1 ⟨A'.s,m2,x,y⟩ x y r ad.ok.so exy h2
mutual
theorem seen_max:∀ (t:TyT)(m n:Int),seenT t (max m n)=max m (seenT t n)
 | .mk k v args fs rest,m,n=>by
  rw[seenT,seenT]
  have e:max (max (max m n) v) rest=max m (max (max n v) rest):=by omega
  rw[e,seenTs_max,seenFs_max]
theorem seenTs_max:∀ (t:List TyT)(m n:Int),seenTs t (max m n)=max m (seenTs t n)
 | [],_,_=>rfl
 | x::l,m,n=>by rw[seenTs,seenTs,seen_max,seenTs_max]
theorem seenFs_max:∀ (t:List Fd)(m n:Int),seenFs t (max m n)=max m (seenFs t n)
 | [],_,_=>rfl
 | x::l,m,n=>by rw[seenFs,seenFs,seenF_max,seenFs_max]
theorem seenF_max:∀ (t:Fd)(m n:Int),seenF t (max m n)=max m (seenF t n)
 | ⟨lb,pr,p,t⟩,m,n=>by
  rw[seenF,seenF]
  have e:max (max m n) p=max m (max n p):=by omega
  rw[e,seen_max]
end
theorem unify_small{G:Ctx}{A A':Ab}{a b:TyT}{m:Int}{n:Nat}(hA:AOk G ⟨A.s,m,a,b⟩)(hr:Unify n A a b m=some (0,A')):szT (ap A'.s a)≤512∧szT (ap A'.s b)≤512:=by
 obtain⟨G',ad,e⟩:=Unify_same hA hr
 have hg:A'.grown=0:=by
  unfold Unify at hr
  dsimp only at hr
  by_cases c:Ab.grown ⟨A.s,m,a,b⟩≠0
  ·rw[if_pos c] at hr;exact absurd (Prod.mk.inj (Option.some.inj hr)).1 c
  ·rw[if_neg c] at hr
   exact(gr_all n).1 _ _ _ _ hr (Decidable.not_not.1 c) rfl
 have ea:A'.a=a:=ad.ea
 have eb:A'.b=b:=ad.eb
 unfold Ab.grown at hg
 rw[ea,eb] at hg
 split at hg
 ·cases hg
 ·omega
section
attribute [local go_sem ↓] Go.wp_at_zero Go.wp_at_succ
section
variable [LoB]
attribute [local instance] Ex.no
theorem seen_in{t:TyT}{m n:Int}(h:seenT t n≤m):seenT t m=m:=by
 have h1:=seen_le t n
 have e:=seen_max t m n
 rw[show max m n=m by omega,show max m (seenT t n)=m by omega] at e
 exact e
theorem twice_seen{a b:TyT}{m:Int}(h:seenT b (seenT a 0)≤m):seenT a m=m∧seenT b m=m:=by
 have h1:=seen_le b (seenT a 0)
 exact⟨seen_in (n:=0) (by omega),seen_in h⟩
theorem ab_eta(A:Ab){a b:TyT}(ha:A.a=a)(hb:A.b=b):A=⟨A.s,A.most,a,b⟩:=by
 subst ha;subst hb;rfl
theorem sv_again{w:World}{P:List UInt8→Prop}{Q:Nat}{M0 M1 M2:Option Nat}{G G0:Ctx}{R:Raw}{s:Sub}{m m0:Int}{ta tb a b a0 b0:TyT}{n0:Nat}{A0 A9:Ab}(h:SolW w P Q M0 M1 M2 G R s m ta tb)(ok:AOk G ⟨s,m,a,b⟩)(e1:seenT a m=m)(e2:seenT b m=m)(hm:m≤2199023255552)
  (hA:AOk G0 ⟨A0.s,m0,a0,b0⟩) (hr:Unify n0 A0 a0 b0 m0=some (0,A9)) (hs:s=A9.s) (hxy:(a=a0∧b=b0)∨(a=b0∧b=a0))
  {A B A' B':Option Addr} {c d c' d':Nat} (hta:TyAt w (okW w) P a [.int .i64 a.k,.int .i64 a.v,.slice A a.args.length c,.slice B a.fs.length d,.int .i64 a.rest]) (htb:TyAt w (okW w) P b [.int .i64 b.k,.int .i64 b.v,.slice A' b.args.length c',.slice B' b.fs.length d',.int .i64 b.rest]):
  Calls Tryz.prog 12 #[.pointer (some ⟨Q,0,none⟩),.agg #[.int .i64 a.k,.int .i64 a.v,.slice A a.args.length c,.slice B a.fs.length d,.int .i64 a.rest],.agg #[.int .i64 b.k,.int .i64 b.v,.slice A' b.args.length c',.slice B' b.fs.length d',.int .i64 b.rest]] w
   (fun e w'=>e = .returned (.int .i64 0)∧Fr (solL Q M0 M1 M2) w w'∧∃ G' M0' M1' M2' R',SolW w' P Q M0' M1' M2' G' R' s m a b∧Le G G'∧AOk G' ⟨s,m,a,b⟩∧∀ x ∈ solL Q M0' M1' M2',x ∈ solL Q M0 M1 M2∨w.heap.size≤x):=by
 have e3:seenT b (seenT a m)=m:=by rw[e1,e2]
 obtain⟨n,r,hn,hc⟩:=sv_Unify h (by rw[e3];exact ok) (by rw[e3];exact hm) hta htb
 rw[e3] at hn hc
 have hr2:=unify_again (A2:=⟨s,m,ta,tb⟩) hA hr hs hxy hn
 subst hr2
 refine hc.mono ?_
 rintro e w' ⟨rfl,hf,hx⟩
 obtain⟨G',M0',M1',M2',R',hU,had,hL,_⟩:=hx rfl
 subst hs
 exact⟨rfl,hf,G',M0',M1',M2',R',hU.sw,had.le,hU.ok,hL⟩
theorem sol_not{w:World}{P:List UInt8→Prop}{Q:Nat}{M0 M1 M2:Option Nat}{G:Ctx}{R:Raw}{s:Sub}{m:Int}{ta tb:TyT}(h:SolW w P Q M0 M1 M2 G R s m ta tb):∀ x ∈ solL Q M0 M1 M2,¬ okW w x:=fun x hx=>(h.at_.not_ok x hx).1
theorem sol_notQ{w:World}{P:List UInt8→Prop}{Q:Nat}{M0 M1 M2:Option Nat}{G:Ctx}{R:Raw}{s:Sub}{m:Int}{ta tb:TyT}(h:SolW w P Q M0 M1 M2 G R s m ta tb):∀ x ∈ [Q],¬ okW w x:=fun x hx=>by
 simp at hx;rw[hx];exact(h.at_.not_ok Q (by simp[solL])).1
theorem and5{a b c d e r:Prop}(h:a∧b∧c∧d∧e)(k:r):a∧b∧c∧d∧e∧r:=⟨h.1,h.2.1,h.2.2.1,h.2.2.2.1,h.2.2.2.2,k⟩
theorem RowTwice_walk{W:World}(hlo:LoB.lo=W.heap.size){a b:TyT}{A B A' B':Option Addr}{c d c' d':Nat}{P0:List UInt8→Prop}(ta:TyAt W (okW W) P0 a [.int .i64 a.k,.int .i64 a.v,.slice A a.args.length c,.slice B a.fs.length d,.int .i64 a.rest])(tb:TyAt W (okW W) P0 b [.int .i64 b.k,.int .i64 b.v,.slice A' b.args.length c',.slice B' b.fs.length d',.int .i64 b.rest]):
  Calls Tryz.prog 6 #[.agg #[.int .i64 a.k,.int .i64 a.v,.slice A a.args.length c,.slice B a.fs.length d,.int .i64 a.rest],.agg #[.int .i64 b.k,.int .i64 b.v,.slice A' b.args.length c',.slice B' b.fs.length d',.int .i64 b.rest]] W fun e w'=>e = .returned (.bool true)∧Fr [] W w':=by
 have f0:=((Fr.refl [] W).alloc (.cells #[.int .i64 a.k,.int .i64 a.v,.slice A a.args.length c,.slice B a.fs.length d,.int .i64 a.rest] 27)).alloc (.cells #[.int .i64 b.k,.int .i64 b.v,.slice A' b.args.length c',.slice B' b.fs.length d',.int .i64 b.rest] 27)
 have g0:=heap_old (heap_new W (.cells #[.int .i64 a.k,.int .i64 a.v,.slice A a.args.length c,.slice B a.fs.length d,.int .i64 a.rest] 27)) (.cells #[.int .i64 b.k,.int .i64 b.v,.slice A' b.args.length c',.slice B' b.fs.length d',.int .i64 b.rest] 27)
 have g1:=heap_new (W.alloc (.cells #[.int .i64 a.k,.int .i64 a.v,.slice A a.args.length c,.slice B a.fs.length d,.int .i64 a.rest] 27)) (.cells #[.int .i64 b.k,.int .i64 b.v,.slice A' b.args.length c',.slice B' b.fs.length d',.int .i64 b.rest] 27)
 rw[World.size_alloc] at g1
 obtain⟨⟨l0,l1,l2,l3,l4⟩,_⟩:=cells5 g0
 obtain⟨⟨k0,k1,k2,k3,k4⟩,_⟩:=cells5 g1
 have ls:=lt_of_heap g0
 have ks:=lt_of_heap g1
 have JA:=Lib.hid g0
 have JB:=Lib.hid g1
 have HF0:=Lib.hid f0
 have TA:=Lib.hid ta
 have TB:=Lib.hid tb
 have hs0:=f0.size
 clear f0 g0 g1 ta tb
 go_enter Tryz.func6,Tryz.ntmps6
 go_wp2_with fail
 refine(lawake_any (by omega)).mono ?_
 rintro e w1 ⟨rfl,f1⟩
 have JAn:=f1.keep JA.out (fun x=>by cases x)
 have JBn:=f1.keep JB.out (fun x=>by cases x)
 clear l0 l1 l2 l3 l4 ls JA k0 k1 k2 k3 k4 ks JB
 have JA:=Lib.hid JAn
 clear JAn
 obtain⟨⟨l0,l1,l2,l3,l4⟩,_⟩:=cells5 JA.out
 have ls:=lt_of_heap JA.out
 have JB:=Lib.hid JBn
 clear JBn
 obtain⟨⟨k0,k1,k2,k3,k4⟩,_⟩:=cells5 JB.out
 have ks:=lt_of_heap JB.out
 have HF1:=Lib.hid (HF0.out.trans f1)
 clear f1
 go_wp2_with fail
 refine(lsmall_any HF1.out TA.out).mono ?_
 rintro e w2 ⟨q1,rfl,hq1,f2⟩
 have JAn:=f2.keep JA.out (fun x=>by cases x)
 have JBn:=f2.keep JB.out (fun x=>by cases x)
 clear l0 l1 l2 l3 l4 ls JA k0 k1 k2 k3 k4 ks JB
 have JA:=Lib.hid JAn
 clear JAn
 obtain⟨⟨l0,l1,l2,l3,l4⟩,_⟩:=cells5 JA.out
 have ls:=lt_of_heap JA.out
 have JB:=Lib.hid JBn
 clear JBn
 obtain⟨⟨k0,k1,k2,k3,k4⟩,_⟩:=cells5 JB.out
 have ks:=lt_of_heap JB.out
 have HF2:=Lib.hid (HF1.out.trans f2)
 clear f2
 cases q1 with
 | false =>
  go_wp2_with fail
  go_ret
  exact⟨rfl,HF2.out⟩
 | true =>
 obtain⟨sa,va⟩:=hq1 rfl
 have VA:=Lib.hid va
 clear hq1 va
 go_wp2_with fail
 refine(lsmall_any HF2.out TB.out).mono ?_
 rintro e w3 ⟨q2,rfl,hq2,f3⟩
 have JAn:=f3.keep JA.out (fun x=>by cases x)
 have JBn:=f3.keep JB.out (fun x=>by cases x)
 clear l0 l1 l2 l3 l4 ls JA k0 k1 k2 k3 k4 ks JB
 have JA:=Lib.hid JAn
 clear JAn
 obtain⟨⟨l0,l1,l2,l3,l4⟩,_⟩:=cells5 JA.out
 have ls:=lt_of_heap JA.out
 have JB:=Lib.hid JBn
 clear JBn
 obtain⟨⟨k0,k1,k2,k3,k4⟩,_⟩:=cells5 JB.out
 have ks:=lt_of_heap JB.out
 have HF3:=Lib.hid (HF2.out.trans f3)
 clear f3
 cases q2 with
 | false =>
  go_wp2_with fail
  go_ret
  exact⟨rfl,HF3.out⟩
 | true =>
 obtain⟨sb,vb⟩:=hq2 rfl
 have VB:=Lib.hid vb
 clear hq2 vb
 go_wp2_with fail
 refine(ltogether_any (TA.out.keep (sh0 HF3.out)) (TB.out.keep (sh0 HF3.out)) sa sb).mono ?_
 rintro e w4 ⟨q3,rfl,hq3,f4⟩
 have JAn:=f4.keep JA.out (fun x=>by cases x)
 have JBn:=f4.keep JB.out (fun x=>by cases x)
 clear l0 l1 l2 l3 l4 ls JA k0 k1 k2 k3 k4 ks JB
 have JA:=Lib.hid JAn
 clear JAn
 obtain⟨⟨l0,l1,l2,l3,l4⟩,_⟩:=cells5 JA.out
 have ls:=lt_of_heap JA.out
 have JB:=Lib.hid JBn
 clear JBn
 obtain⟨⟨k0,k1,k2,k3,k4⟩,_⟩:=cells5 JB.out
 have ks:=lt_of_heap JB.out
 have HF4:=Lib.hid (HF3.out.trans f4)
 have hk4:=ks
 clear f4
 cases q3 with
 | false =>
  go_wp2_with fail
  go_ret
  exact⟨rfl,HF4.out⟩
 | true =>
 obtain⟨G,hp,hr,wa,wb,hok,hbd,hsup⟩:=mayG_fn (hq3 rfl) VA.out VB.out
 have hfew:=few_two wa wb sa sb
 have TA2:=Lib.hid (TA.out.labs (Q:=(· ∈ labT a++labT b)) (fun x hx=>List.mem_append_left _ hx))
 have TB2:=Lib.hid (TB.out.labs (Q:=(· ∈ labT a++labT b)) (fun x hx=>List.mem_append_right _ hx))
 have HP:=Lib.hid hp
 have HR:=Lib.hid hr
 have WA:=Lib.hid wa
 have WB:=Lib.hid wb
 have HOK:=Lib.hid hok
 have HBD:=Lib.hid hbd
 have HSUP:=Lib.hid hsup
 have HFEW:=Lib.hid hfew
 clear hq3 hp hr wa wb hok hbd hsup hfew TA TB VA VB
 go_wp2_with fail
 refine(sv_New _ (by have:=HF4.out.size;omega)).mono ?_
 rintro e w5 ⟨Q,rfl,hQ,f5,hS⟩
 have S5:=Lib.hid (hS G _ HP.out HR.out HFEW.out)
 have JAn:=f5.keep JA.out (fun x=>by cases x)
 have JBn:=f5.keep JB.out (fun x=>by cases x)
 clear l0 l1 l2 l3 l4 ls JA k0 k1 k2 k3 k4 ks JB
 have JA:=Lib.hid JAn
 clear JAn
 obtain⟨⟨l0,l1,l2,l3,l4⟩,_⟩:=cells5 JA.out
 have ls:=lt_of_heap JA.out
 have JB:=Lib.hid JBn
 clear JBn
 obtain⟨⟨k0,k1,k2,k3,k4⟩,_⟩:=cells5 JB.out
 have ks:=lt_of_heap JB.out
 have HF5:=Lib.hid (HF4.out.trans f5)
 have hs4:=HF4.out.size
 have hq5:=S5.out.at_.lt
 clear f5 hS
 go_wp2_with fail
 obtain⟨n,r,hn,hc⟩:=sv_Unify S5.out HOK.out (by have:=HBD.out;omega) (TA2.out.keep (sh0 HF5.out)) (TB2.out.keep (sh0 HF5.out))
 refine hc.mono ?_
 rintro e w6 ⟨rfl,h6,hx⟩
 have h6q:Fr [Q] w5 w6:=h6
 have JAn:=h6q.keep JA.out (by simp;omega)
 have JBn:=h6q.keep JB.out (by simp;omega)
 clear l0 l1 l2 l3 l4 ls JA k0 k1 k2 k3 k4 ks JB
 have JA:=Lib.hid JAn
 clear JAn
 obtain⟨⟨l0,l1,l2,l3,l4⟩,_⟩:=cells5 JA.out
 have ls:=lt_of_heap JA.out
 have JB:=Lib.hid JBn
 clear JBn
 obtain⟨⟨k0,k1,k2,k3,k4⟩,_⟩:=cells5 JB.out
 have ks:=lt_of_heap JB.out
 have HF6:=Lib.hid (HF5.out.step h6q (fun x hx => .inr (by simp at hx;omega)))
 have HN:=Lib.hid hn
 have HX:=Lib.hid hx
 have hs5:=h6q.size
 clear hn hc hx h6 h6q
 obtain⟨e0,A6⟩:=r
 by_cases hz:e0=0
 rotate_left
 ·have d0:(e0 != 0)=true:=by simp[hz]
  go_wp2_with fail
  go_ret
  exact⟨by first|rfl|simp,HF6.out⟩
 subst hz
 obtain⟨G6,M0,M1,M2,R6,hU,hadv,hL,hmc⟩:=HX.out rfl
 have hsz:=(unify_small (A:=⟨.one,0,.zero,.zero⟩) HOK.out HN.out)
 have hm6:∀ x ∈ solL Q M0 M1 M2,x=Q∨w5.heap.size≤x:=fun x hx=>by
  rcases hL x hx with c|c
  ·simp[solL] at c;exact .inl c
  ·exact .inr c
 have HM6:=Lib.hid hm6
 have HU:=Lib.hid hU
 have HADV:=Lib.hid hadv
 have HMC:=Lib.hid hmc
 have WA6:=Lib.hid (wfT_le hadv.le WA.out)
 have WB6:=Lib.hid (wfT_le hadv.le WB.out)
 clear hU hadv hL hmc hm6 HX
 have hmo:seenT b (seenT a 0)≤A6.most:=HADV.out.mo
 obtain⟨s1,s2⟩:=twice_seen hmo
 have hm40:A6.most≤2199023255552:=by
  have h1:=HMC.out
  have h2:=cnt_le (⟨.one,seenT b (seenT a 0),a,b⟩:Ab)
  have h3:=HBD.out
  have h4:=HOK.out.mo
  dsimp only at h1 h2 h4
  omega
 have HM40:=Lib.hid hm40
 have hA6:=ab_eta A6 HADV.out.ea HADV.out.eb
 obtain⟨X,hXe⟩:∃ X,X=ap A6.s a:=⟨_,rfl⟩
 have hXb:X=ap A6.s b:=by
  obtain⟨G',ad,e⟩:=Unify_same HOK.out HN.out
  rw[hXe];exact e
 have wX:WfT G6 X:=by rw[hXe];exact ap_wf HU.out.ok.sw WA6.out
 have HXE:=Lib.hid hXe
 have HXB:=Lib.hid hXb
 have WX:=Lib.hid wX
 have OK6:AOk G6 ⟨A6.s,A6.most,a,b⟩:=by rw[← hA6];exact HU.out.ok
 have OK6':AOk G6 ⟨A6.s,A6.most,b,a⟩:=aok_ab OK6 WB6.out WA6.out
 have AOK:=Lib.hid OK6
 have AOK2:=Lib.hid OK6'
 have HS1:=Lib.hid s1
 have HS2:=Lib.hid s2
 have hmQ:∀ x ∈ solL Q M0 M1 M2,w4.heap.size≤x:=fun x hx=>by
  rcases HM6.out x hx with c|c <;> omega
 have HMQ:=Lib.hid hmQ
 clear hmo hXe hXb wX OK6 OK6' s1 s2 hm40 hmQ
 go_wp2_with fail
 refine(sv_Apply (t:=a) HU.out.sw WA6.out (TA2.out.keep (sh0 HF6.out))).mono ?_
 rw[← HXE.out,HS1.out]
 rintro e w7 ⟨A1,c1,B1,d1,rfl,ht1,hS7,h7⟩
 have JAn:=h7.keep JA.out (by simp;omega)
 have JBn:=h7.keep JB.out (by simp;omega)
 clear l0 l1 l2 l3 l4 ls JA k0 k1 k2 k3 k4 ks JB
 have JA:=Lib.hid JAn
 clear JAn
 obtain⟨⟨l0,l1,l2,l3,l4⟩,_⟩:=cells5 JA.out
 have ls:=lt_of_heap JA.out
 have JB:=Lib.hid JBn
 clear JBn
 obtain⟨⟨k0,k1,k2,k3,k4⟩,_⟩:=cells5 JB.out
 have ks:=lt_of_heap JB.out
 have HF7:=Lib.hid (HF6.out.step h7 (fun x hx => .inr (by simp at hx;omega)))
 have S7:=Lib.hid hS7
 have TX7:=Lib.hid ht1
 have HS7:=Lib.hid h7.size
 clear ht1 hS7 h7
 have f8:=(Fr.refl [] w7).alloc (.cells #[.int .i64 X.k,.int .i64 X.v,.slice A1 X.args.length c1,.slice B1 X.fs.length d1,.int .i64 X.rest] 27)
 have g8:=heap_new w7 (.cells #[.int .i64 X.k,.int .i64 X.v,.slice A1 X.args.length c1,.slice B1 X.fs.length d1,.int .i64 X.rest] 27)
 go_upto_region 9 with(fail)
 have hT2:=lt_of_heap g8
 have JAn:=f8.keep JA.out (fun x=>by cases x)
 have JBn:=f8.keep JB.out (fun x=>by cases x)
 clear l0 l1 l2 l3 l4 ls JA k0 k1 k2 k3 k4 ks JB
 have JA:=Lib.hid JAn
 clear JAn
 obtain⟨⟨l0,l1,l2,l3,l4⟩,_⟩:=cells5 JA.out
 have ls:=lt_of_heap JA.out
 have JB:=Lib.hid JBn
 clear JBn
 obtain⟨⟨k0,k1,k2,k3,k4⟩,_⟩:=cells5 JB.out
 have ks:=lt_of_heap JB.out
 generalize hW8:w7.alloc (.cells #[.int .i64 X.k,.int .i64 X.v,.slice A1 X.args.length c1,.slice B1 X.fs.length d1,.int .i64 X.rest] 27)=w8 at *
 have JX:=Lib.hid g8
 have HF8:=Lib.hid (HF7.out.trans f8)
 have S8:=Lib.hid ((S7.out.fr f8).fr (Fr.refl [] w8).drew)
 have TX8:=Lib.hid (TX7.out.keep (w':=w8.drew) (ok':=okW w8.drew) (fun b hb hlt=>sh0 (f8.trans (Fr.refl [] w8).drew) b hb.1 hlt))
 generalize hT2e:w7.heap.size=T2 at *
 have hmA:∀ x ∈ solL Q M0 M1 M2,w4.heap.size≤x∧x≠T2:=fun x hx=>⟨HMQ.out x hx,by have:=(S7.out.at_.not_ok x hx).2;omega⟩
 have EA:=Lib.hid hmA
 clear hmA f8 g8 S7 TX7 hW8
 have hQ4:W.heap.size+1<w4.heap.size:=hk4
 generalize hB0:W.heap.size=T0 at *
 have LX0:=Lib.hid (lim_of HFEW.out TX8.out WX.out)
 have cS:=fun(Y:World) (ok1 ok2:Nat→Prop) (A2 B2 A4 B4:Option Addr) (c2 d2 c4 d4:Nat) (h1:TyAt Y ok1 (· ∈ labT a++labT b) X [.int .i64 X.k,.int .i64 X.v,.slice A2 X.args.length c2,.slice B2 X.fs.length d2,.int .i64 X.rest]) (h2:TyAt Y ok2 (· ∈ labT a++labT b) X [.int .i64 X.k,.int .i64 X.v,.slice A4 X.args.length c4,.slice B4 X.fs.length d4,.int .i64 X.rest])=>Lib.hid (rsame_all _ Y Y _ _ _ _ X A2 B2 A4 B4 c2 d2 c4 d4 (Nat.lt_succ_self _) (Fr.refl [] Y) LX0.out h1 h2)
 have hq8:=S8.out.at_.lt
 have cU:=fun(Y:World) (N0 N1 N2:Option Nat) (G':Ctx) (R:Raw) (ta tb:TyT) (h:SolW Y (· ∈ labT a++labT b) Q N0 N1 N2 G' R A6.s A6.most ta tb) (ok:AOk G' ⟨A6.s,A6.most,a,b⟩) (D:Fr [] W Y)=>Lib.hid (sv_again (A0:=⟨.one,0,.zero,.zero⟩) h ok HS1.out HS2.out HM40.out HOK.out HN.out rfl (.inl ⟨rfl,rfl⟩) (TA2.out.keep (sh0 D)) (TB2.out.keep (sh0 D)))
 have cV:=fun(Y:World) (N0 N1 N2:Option Nat) (G':Ctx) (R:Raw) (ta tb:TyT) (h:SolW Y (· ∈ labT a++labT b) Q N0 N1 N2 G' R A6.s A6.most ta tb) (ok:AOk G' ⟨A6.s,A6.most,b,a⟩) (D:Fr [] W Y)=>Lib.hid (sv_again (A0:=⟨.one,0,.zero,.zero⟩) h ok HS2.out HS1.out HM40.out HOK.out HN.out rfl (.inr ⟨rfl,rfl⟩) (TB2.out.keep (sh0 D)) (TA2.out.keep (sh0 D)))
 have cOK:=fun(G':Ctx) (h:AOk G' ⟨A6.s,A6.most,a,b⟩) (le:Le G6 G')=>(aok_ab h (wfT_le le WB6.out) (wfT_le le WA6.out):AOk G' ⟨A6.s,A6.most,b,a⟩)
 have hd4:w4.heap.size≤T2:=by have:=HS7.out;omega
 have hQT:Q≠T2:=(EA.out Q (by simp[solL])).2
 have hEx:∀ {Y:World} {L L':List Nat},(∀ x ∈ L,w4.heap.size≤x∧x≠T2)→T2<Y.heap.size→(∀ x ∈ L',x ∈ L∨Y.heap.size≤x)→∀ x ∈ L',w4.heap.size≤x∧x≠T2:=fun h k h2 x hx=>(h2 x hx).elim (h x) (fun q=>⟨by omega,by omega⟩)
 have JA8:w8.drew.heap[T0]?=some (.cells #[.int .i64 a.k,.int .i64 a.v,.slice A a.args.length c,.slice B a.fs.length d,.int .i64 a.rest] 27):=JA.out
 have JB8:w8.drew.heap[T0+1]?=some (.cells #[.int .i64 b.k,.int .i64 b.v,.slice A' b.args.length c',.slice B' b.fs.length d',.int .i64 b.rest] 27):=JB.out
 have JX8:w8.drew.heap[T2]?=some (.cells #[.int .i64 X.k,.int .i64 X.v,.slice A1 X.args.length c1,.slice B1 X.fs.length d1,.int .i64 X.rest] 27):=JX.out
 have D8:=HF8.out.drew
 have N0:=and5 (cells5 JA8).1 (and5 (cells5 JB8).1 (cells5 JX8).1)
 go_region_held3 (fun w'=>w'.cell? ⟨T0,0,none⟩=some (.int .i64 a.k)∧w'.cell? ⟨T0,1,none⟩=some (.int .i64 a.v)∧w'.cell? ⟨T0,2,none⟩=some (.slice A a.args.length c)∧w'.cell? ⟨T0,3,none⟩=some (.slice B a.fs.length d)∧w'.cell? ⟨T0,4,none⟩=some (.int .i64 a.rest)∧w'.cell? ⟨T0+1,0,none⟩=some (.int .i64 b.k)∧w'.cell? ⟨T0+1,1,none⟩=some (.int .i64 b.v)∧w'.cell? ⟨T0+1,2,none⟩=some (.slice A' b.args.length c')∧w'.cell? ⟨T0+1,3,none⟩=some (.slice B' b.fs.length d')∧w'.cell? ⟨T0+1,4,none⟩=some (.int .i64 b.rest)∧w'.cell? ⟨T2,0,none⟩=some (.int .i64 X.k)∧w'.cell? ⟨T2,1,none⟩=some (.int .i64 X.v)∧w'.cell? ⟨T2,2,none⟩=some (.slice A1 X.args.length c1)∧w'.cell? ⟨T2,3,none⟩=some (.slice B1 X.fs.length d1)∧w'.cell? ⟨T2,4,none⟩=some (.int .i64 X.rest)) (first|go_keep|exact N0|exact N1|exact N2|exact N3|exact N4|exact N5|exact N6)
  ((first | ((with_reducible refine (cU _ _ _ _ _ _ _ _ S8.out AOK.out D8).out.mono ?_); rintro e z1 ⟨rfl, e1, G1', M01, M11, M21, RR1, SS1, le1, ok1, hm1⟩; have D1 := D8.step e1 (fun x hx => .inr (by have := (EA.out x hx).1; omega)); have JA1 := e1.keep JA8 (fun hx => by have := EA.out _ hx; omega); have JB1 := e1.keep JB8 (fun hx => by have := EA.out _ hx; omega); have JX1 := e1.keep JX8 (fun hx => by have := EA.out _ hx; omega); have N1 := and5 (cells5 JA1).1 (and5 (cells5 JB1).1 (cells5 JX1).1); have TY1 := TX8.out.keep (sh_ok e1 (sol_not S8.out)); have EE1 := hEx EA.out (lt_of_heap JX8) hm1) | ((with_reducible refine (cV _ _ _ _ _ _ _ _ SS1 (cOK _ ok1 le1) D1).out.mono ?_); rintro e z2 ⟨rfl, e2, G2', M02, M12, M22, RR2, SS2, le2, ok2, hm2⟩; have D2 := D1.step e2 (fun x hx => .inr (by have := (EE1 x hx).1; omega)); have JA2 := e2.keep JA1 (fun hx => by have := EE1 _ hx; omega); have JB2 := e2.keep JB1 (fun hx => by have := EE1 _ hx; omega); have JX2 := e2.keep JX1 (fun hx => by have := EE1 _ hx; omega); have N2 := and5 (cells5 JA2).1 (and5 (cells5 JB2).1 (cells5 JX2).1); have TY2 := TY1.keep (sh_ok e2 (sol_not SS1)); have EE2 := hEx EE1 (lt_of_heap JX1) hm2; have WA2 := wfT_le le2 (wfT_le le1 WA6.out); have WB2 := wfT_le le2 (wfT_le le1 WB6.out)) | ((with_reducible refine (sv_Apply (t := a) SS2 WA2 (TA2.out.keep (sh0 D2))).mono ?_); rw [← HXE.out, HS1.out]; rintro e z3 ⟨A3, c3, B3, d3, rfl, ht3, SS3, e3⟩; have D3 := D2.step e3 (fun x hx => .inr (by simp at hx; omega)); have JA3 := e3.keep JA2 (by simp; omega); have JB3 := e3.keep JB2 (by simp; omega); have JX3 := e3.keep JX2 (by simp; omega); have N3 := and5 (cells5 JA3).1 (and5 (cells5 JB3).1 (cells5 JX3).1); have TY3 := TY2.keep (sh_ok e3 (sol_notQ SS2))) | ((with_reducible refine (cS z3 _ _ A3 B3 A1 B1 c3 d3 c1 d1 ht3 TY3).out.mono ?_); rintro e z4 ⟨rfl, e4⟩; have D4 := D3.trans e4; have JA4 := e4.keep JA3 (fun hx => by cases hx); have JB4 := e4.keep JB3 (fun hx => by cases hx); have JX4 := e4.keep JX3 (fun hx => by cases hx); have N4 := and5 (cells5 JA4).1 (and5 (cells5 JB4).1 (cells5 JX4).1); have SS4 := SS3.fr e4; have TY4 := TY3.keep (sh0 e4)) | ((with_reducible refine (sv_Apply (t := b) SS4 WB2 (TB2.out.keep (sh0 D4))).mono ?_); rw [← HXB.out, HS2.out]; rintro e z5 ⟨A5, c5, B5, d5, rfl, ht5, SS5, e5⟩; have D5 := D4.step e5 (fun x hx => .inr (by simp at hx; omega)); have JA5 := e5.keep JA4 (by simp; omega); have JB5 := e5.keep JB4 (by simp; omega); have JX5 := e5.keep JX4 (by simp; omega); have N5 := and5 (cells5 JA5).1 (and5 (cells5 JB5).1 (cells5 JX5).1); have TY5 := TY4.keep (sh_ok e5 (sol_notQ SS4))) | ((with_reducible refine (cS z5 _ _ A5 B5 A1 B1 c5 d5 c1 d1 ht5 TY5).out.mono ?_); rintro e z6 ⟨rfl, e6⟩; have D6 := D5.trans e6; have JA6 := e6.keep JA5 (fun hx => by cases hx); have JB6 := e6.keep JB5 (fun hx => by cases hx); have JX6 := e6.keep JX5 (fun hx => by cases hx); have N6 := and5 (cells5 JA6).1 (and5 (cells5 JB6).1 (cells5 JX6).1); have SS6 := SS5.fr e6; have TY6 := TY5.keep (sh0 e6)) | fail "noarm"))
 all_goals
  have HFF:=Lib.hid D6
  go_wp2_with fail
  go_ret
  exact⟨by first|rfl|simp,HFF.out⟩
end
end
section
open Go.ChangeShapes Go.WideShapes Go.ChangeAt Go.ChangeMaps Go.RowKit
theorem rowTwice_facts:joinedFacts Tryz.pinned.checked.prog 6 Tryz.f6 (OpenSpec.ofChange Rows.rowTwiceSpec).bare Rows.rowTwiceRow=true:=by kernel_rfl
theorem rowTwice_reads(os:Os){H:Type}(enc:TypeId×Value→H):∃ places,DataW.whole enc Tryz.prog ((doorW os).forCall (fun _ _=>0) ⟨#[],#[.agg #[.int .i64 0,.int .i64 0,.slice none 0 0,.slice none 0 0,.int .i64 0],.agg #[.int .i64 0,.int .i64 0,.slice none 0 0,.slice none 0 0,.int .i64 0]],[]⟩).memory Tryz.f6.params.toList Rows.rowTwiceSpec.vars false (#[.agg #[.int .i64 0,.int .i64 0,.slice none 0 0,.slice none 0 0,.int .i64 0],.agg #[.int .i64 0,.int .i64 0,.slice none 0 0,.slice none 0 0,.int .i64 0]]:Array Value).toList 8=some ([.agg [.lit (.int .i64 0),.lit (.int .i64 0),.nil,.agg [.nil,.lit (.int .i64 0)]],.agg [.lit (.int .i64 0),.lit (.int .i64 0),.nil,.agg [.nil,.lit (.int .i64 0)]]],[],places):=
 ⟨[],by kernel_rfl⟩
set_option maxRecDepth 100000 in
theorem rowTwice_contract(H:Type)(enc:TypeId×Value→H)(W:World)(base:Nat)(args:Array Value)(ds gs:List (DataW H))(before:List MemPlace)
  (hval:∀ (j:Nat) t v,Tryz.f6.params[j]?=some t→args[j]?=some v→Value.okWide Tryz.prog W .any base t v)
  (hW:DataW.Whole enc Tryz.prog Tryz.f6.params.toList Rows.rowTwiceSpec.vars false W args.toList ds gs before):
  Calls Tryz.prog 6 args W fun e W'=>∃ v,e = .returned v∧Rows.rowTwiceSpec.post enc Tryz.prog Tryz.f6 false true false false W args v W':=by
 letI:LoB:=⟨W.heap.size⟩
 have hW':=hW
 obtain⟨p,q,hA0,hV,rfl,hfz,hnd⟩:=hW
 have hA:DataW.TrodAll enc Tryz.prog W 0 (fun _=>true) true Tryz.f6.params.toList args.toList ds p:=hA0
 rw[Tryz.params6] at hA hval
 obtain⟨v0,vs0,d0,ds0,p0,q0,hargs,rfl,rfl,t0,r0⟩:=trodAll_cons hA
 obtain⟨v1,vs1,d1,ds1,p1,q1,rfl,rfl,rfl,t1,r1⟩:=trodAll_cons r0
 obtain⟨rfl,rfl,rfl⟩:=trodAll_nil r1
 obtain rfl:args = #[v0,v1]:=by cases args;simp_all
 obtain⟨rfl,rfl⟩:=trodVars_none hV
 have tkx:=t0
 obtain⟨csx,rfl⟩:=agg_ofT Tryz.underlying27 (hval 0 27 v0 rfl rfl)
 obtain⟨x,Ax,cx,Bx,ex,rfl,xt⟩:=open_arg_ty rfl t0
 have hltx:∀ z ∈ p0,z.block<W.heap.size:=fun z hz=>hW'.lt z (by simp[hz])
 have tky:=t1
 obtain⟨csy,rfl⟩:=agg_ofT Tryz.underlying27 (hval 1 27 v1 rfl rfl)
 obtain⟨y,Ay,cy,By,ey,rfl,yt⟩:=open_arg_ty rfl t1
 have hlty:∀ z ∈ p1,z.block<W.heap.size:=fun z hz=>hW'.lt z (by simp[hz])
 clear hA0
 simp only[List.append_nil] at hW'
 refine(RowTwice_walk rfl xt yt).mono fun e W' ⟨he,hf⟩=>?_
 subst he
 refine⟨_,rfl,_,_,_,[],p0++(p1++([])),[],hW',?_,?_,rfl,hf.below0.frame _,fun h=>by cases h⟩
 ·exact trodAll_cons_mk (shut_bool Tryz.underlying4 _) trodAll_mk0
 ·exact trodAll_cons_mk (Below.trod laidOutT (by kernel_rfl) (of_decide_eq_true (by kernel_rfl)) tkx hf.below0 hltx) (trodAll_cons_mk (Below.trod laidOutT (by kernel_rfl) (of_decide_eq_true (by kernel_rfl)) tky hf.below0 hlty) trodAll_mk0)
set_option maxRecDepth 100000 in
theorem rowTwice_lifted(os:Os)(started:os.Started)(H:Type)(enc:TypeId×Value→H)(F:Stop.Interp):
  ReturnsInHanded {} Tryz.checked os 6 .any ((OpenSpec.ofChange Rows.rowTwiceSpec).preRow enc Tryz.prog Tryz.f6 Rows.rowTwiceRow.domain false Rows.rowTwiceRow.laid) (((OpenSpec.ofChange Rows.rowTwiceSpec).at F).post enc Tryz.prog Tryz.f6 false true false false):=by
 obtain⟨places,hx⟩:=rowTwice_reads os enc
 refine returnsInHanded_of_row (C:=Tryz.checked) (s:=OpenSpec.ofChange Rows.rowTwiceSpec) own started (by kernel_rfl) Tryz.func6
  (witness_row_atRef (enc:=enc) (C:=Tryz.checked) false (doorW os) #[.agg #[.int .i64 0,.int .i64 0,.slice none 0 0,.slice none 0 0,.int .i64 0],.agg #[.int .i64 0,.int .i64 0,.slice none 0 0,.slice none 0 0,.int .i64 0]] rfl (by kernel_rfl) (by kernel_rfl) (by kernel_rfl)
   (OpenSpec.preRow_of_cond 8 hx (by kernel_rfl) (fun k hk=>by cases hk) (by kernel_rfl) (laid_met os _))) ?_
 intro W base args ds gs before hval hW _ _ _ _ _ _
 exact rowTwice_contract H enc W base args ds gs before hval hW
theorem rowTwice_said:Rows.RowTwiceSaid :=
 OpenClaim.holds_of_cond 6 Tryz.f6 rfl rfl rfl rfl rfl rfl rfl ⟨rfl,rfl,rfl,rfl,rfl⟩ rfl rfl rfl rfl rfl (by kernel_rfl) Tryz.func6 rowTwice_facts
  (of_decide_eq_true (by kernel_rfl)) (by unfold Func.isWrapper;first|(rw[if_pos (by decide +kernel)];kernel_rfl)| (rw[if_neg (by decide +kernel)];exact⟨rfl,rfl⟩))
  (fun os started H enc _ F=>by rw[OpenClaim.pre_eq_preRow];exact rowTwice_lifted os started H enc F)
theorem rowTwice_plain (f : FuncId) (fn : Func) (hf : Tryz.pinned.checked.prog.funcNamed "marquetry/marquetrylaw10.RowTwice" = some f) (hfn : Tryz.pinned.checked.prog.funcs[f]? = some fn) :
  false=Tryz.pinned.checked.prog.looks []∧∀ (j:Nat) t,fn.params[j]?=some t→Tryz.pinned.checked.prog.wantsStandIn t=false:=by
 obtain rfl : f = 6 := Option.some.inj ((show Tryz.prog.funcNamed "marquetry/marquetrylaw10.RowTwice" = some 6 by kernel_rfl).symm.trans hf) |>.symm
 obtain rfl:fn=Tryz.f6:=(Option.some.inj (Tryz.func6.symm.trans hfn)).symm
 refine⟨by kernel_rfl,fun j t ht=>?_⟩
 rw[Tryz.params6] at ht
 have hm:t ∈ [27,27]:=by simpa using Array.mem_of_getElem? ht
 have hall:([27,27].all fun u=>!Tryz.prog.wantsStandIn u)=true:=by kernel_rfl
 exact(show Tryz.prog.wantsStandIn t=false by simpa using List.all_eq_true.1 hall t hm)
theorem rowTwice_card:Rows.RowTwiceCardSaid :=
 Claim7.holds_tied_plain_at .later [] _ _ _ _ rowTwice_said (fun _ h=>by cases h) (by kernel_rfl) (fun _ h=>by cases h) rowTwice_row_tie rfl ⟨rfl,rfl⟩ (by kernel_rfl) rfl rowTwice_plain (by kernel_rfl)
end
end Go.Proofs.YtoimdiballicnaaGreatDoor
