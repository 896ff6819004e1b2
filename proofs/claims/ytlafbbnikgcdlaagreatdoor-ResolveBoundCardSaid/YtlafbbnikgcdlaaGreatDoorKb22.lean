/- A part of the proof: Nx7, Nv, Nv2, Nv3, Nx17, Nx22. -/
import Derived.Deep.RegionHeld3
import Derived.Test.YtlafbbnikgcdlaaGreatDoorKb19
import Derived.Test.YtlafbbnikgcdlaaGreatDoorKb21
namespace Go.Proofs.YtlafbbnikgcdlaaGreatDoor
open Go.RowKit
open _root_.Go.Proofs.Tryz
set_option linter.all false
set_option maxHeartbeats 16000000
set_option maxRecDepth 100000
variable{p:Prop}
open List renaming length_append→La'
open Nat renaming lt_of_lt_of_le→Nl',le_refl→Nr'
section
attribute [local go_sem ↓] Go.wp_at_zero Go.wp_at_succ
theorem nn10(h:p:=by
 have t1:(k==1)=false:=by simp;omega
 have t7:(k==7)=true:=by simp;omega
 have t9:(k==9)=false:=by simp;omega
 have t20:(k==20)=false:=by simp;omega
 have kqq326:=@Hz _ @nn611;exact qq326):p:=h
theorem nn178(h:p:=by
 have kqq363:=@Hz _ @nn720;exact qq363):p:=h
theorem nn233(h:p:=by
 have kqq321:=@Hz _ @nn587;exact qq321):p:=h
theorem nn278(h:p:=by
 have hX2:=hX1.keep (w':=x8) (ok':=TOk (w.heap.size+3) A2) (G5 T2.sz (Fr.refl [] _));have HT3:=Hz T3;have HX2:=Hz hX2;clear T2 T3 hst2 cW hX1 hX2;have hD:¬ x8.heap.size=w.heap.size+1+1:=by have:=HT3.out.sz;omega
 have hD':¬ x8.heap.size=w.heap.size+1:=by have:=HT3.out.sz;omega
 have hE:¬ w.heap.size+1+1=x8.heap.size:=by have:=HT3.out.sz;omega
 have hE':¬ w.heap.size+1=x8.heap.size:=by have:=HT3.out.sz;omega
 have hL:w.heap.size+1+1<x8.heap.size:=by have:=HT3.out.sz;omega
 have hL':w.heap.size+1<x8.heap.size:=by have:=HT3.out.sz;omega
 go_wp2_with fail
 have hZ:Fr [w.heap.size+1,w.heap.size+1+1] x8 (((((((((x8.setCell ⟨w.heap.size+1+1,6,none⟩ (.slice (some ⟨x8.heap.size,0,none⟩) 1 1)).setCell ⟨w.heap.size+1,0,none⟩ (vI 7)).setCell ⟨w.heap.size+1,1,none⟩ (vI a)).setCell ⟨w.heap.size+1,2,none⟩ (vI S.n)).setCell ⟨w.heap.size+1,3,none⟩ (vI 0)).setCell ⟨w.heap.size+1,4,none⟩ (vE)).setCell ⟨w.heap.size+1,5,none⟩ (vZ)).setCell ⟨w.heap.size+1,6,none⟩ (.slice (some ⟨x8.heap.size,0,none⟩) 1 1)).setCell ⟨w.heap.size+1,7,none⟩ (vZ)):=((((((((((Fr.refl [w.heap.size+1,w.heap.size+1+1] x8).setCell (p:=⟨w.heap.size+1+1,6,none⟩) (.inl sM) (.slice (some ⟨x8.heap.size,0,none⟩) 1 1)).setCell (p:=⟨w.heap.size+1,0,none⟩) (.inl sM) (vI 7)).setCell (p:=⟨w.heap.size+1,1,none⟩) (.inl sM) (vI a)).setCell (p:=⟨w.heap.size+1,2,none⟩) (.inl sM) (vI S.n)).setCell (p:=⟨w.heap.size+1,3,none⟩) (.inl sM) (vI 0)).setCell (p:=⟨w.heap.size+1,4,none⟩) (.inl sM) (vE)).setCell (p:=⟨w.heap.size+1,5,none⟩) (.inl sM) (vZ)).setCell (p:=⟨w.heap.size+1,6,none⟩) (.inl sM) (.slice (some ⟨x8.heap.size,0,none⟩) 1 1)).setCell (p:=⟨w.heap.size+1,7,none⟩) (.inl sM) (vZ))
 have hsz:(((((((((x8.setCell ⟨w.heap.size+1+1,6,none⟩ (.slice (some ⟨x8.heap.size,0,none⟩) 1 1)).setCell ⟨w.heap.size+1,0,none⟩ (vI 7)).setCell ⟨w.heap.size+1,1,none⟩ (vI a)).setCell ⟨w.heap.size+1,2,none⟩ (vI S.n)).setCell ⟨w.heap.size+1,3,none⟩ (vI 0)).setCell ⟨w.heap.size+1,4,none⟩ (vE)).setCell ⟨w.heap.size+1,5,none⟩ (vZ)).setCell ⟨w.heap.size+1,6,none⟩ (.slice (some ⟨x8.heap.size,0,none⟩) 1 1)).setCell ⟨w.heap.size+1,7,none⟩ (vZ)).heap.size=x8.heap.size:=by simp[World.setCell]
 have hG:=Aq (x:=x8.setCell ⟨w.heap.size+1+1,6,none⟩ (.slice (some ⟨x8.heap.size,0,none⟩) 1 1)) (((Fr.refl [w.heap.size+1+1] x8).setCell (p:=⟨w.heap.size+1+1,6,none⟩) (.inl sM) (.slice (some ⟨x8.heap.size,0,none⟩) 1 1)).keep HT3.out.r (by simp only[List.mem_singleton];omega)) (vI 7) (vI a) (vI S.n) (vI 0) (vE) (vZ) (.slice (some ⟨x8.heap.size,0,none⟩) 1 1) (vZ);unfold st8 at hG
 generalize ((((((((x8.setCell ⟨w.heap.size+1+1,6,none⟩ (.slice (some ⟨x8.heap.size,0,none⟩) 1 1)).setCell ⟨w.heap.size+1,0,none⟩ (vI 7)).setCell ⟨w.heap.size+1,1,none⟩ (vI a)).setCell ⟨w.heap.size+1,2,none⟩ (vI S.n)).setCell ⟨w.heap.size+1,3,none⟩ (vI 0)).setCell ⟨w.heap.size+1,4,none⟩ (vE)).setCell ⟨w.heap.size+1,5,none⟩ (vZ)).setCell ⟨w.heap.size+1,6,none⟩ (.slice (some ⟨x8.heap.size,0,none⟩) 1 1)).setCell ⟨w.heap.size+1,7,none⟩ (vZ)=Z at *
 have hX9:Au (x8.alloc (.cells #[vI k1,vI a1,vI v1,vI n1,.string ⟨s1⟩,.slice B51 n51 e51,.slice B61 n61 e61,.slice B71 n71 e71] 34)) (TOk (w.heap.size+3) _) _ [vI 7,vI a,vI S.n,vI 0,vE,vZ,.slice (some ⟨x8.heap.size,0,none⟩) 1 1,vZ]:=Au.of_rows (c5:=fun _=>[]) (c7:=fun _=>[]) An.nil_ (row_one HX2.out HT3.out.sz HT3.out.st.1.own_lt) An.nil_;have hfin:=TSt.fin (HT3.out.fr0 ((Fr.refl [] _).alloc (.cells #[vI k1,vI a1,vI v1,vI n1,.string ⟨s1⟩,.slice B51 n51 e51,.slice B61 n61 e61,.slice B71 n71 e71] 34))) hP HLE.out (hZ.both hsz (.cells #[vI k1,vI a1,vI v1,vI n1,.string ⟨s1⟩,.slice B51 n51 e51,.slice B61 n61 e61,.slice B71 n71 e71] 34)) hX9;obtain⟨⟨g0,g1,g2,g3,g4,g5,g6,g7⟩,_⟩:=Ac hG;have hRz:=Aa hG;refine bodyPost_ret (v:=.agg #[vI 7,vI a,vI S.n,vI 0,vE,vZ,.slice (some ⟨x8.heap.size,0,none⟩) 1 1,vZ]) ?_ rfl hfin;exact qq329):p:=h
theorem nn311(h:p:=by
 have hX:tmE (.mk k a nm n s ls args arms) S=(.mk 7 a S.n 0 [] [] (Bf args none (S.bind nm)).1 [],(Bf args none (S.bind nm)).2.2.cut S.l.length):=by
  subst hk0;rw[Um]
 have kqq4:=@Hz _ @nn10;exact qq4):p:=h
theorem nn435(h:p:=by
 have hEs:Bf args none (S.bind nm)=([(tmE (.mk p0 pa0 pn0 pi0 ps0 pl0 pr0 pm0) (S.bind nm)).1],(tmE (.mk p0 pa0 pn0 pi0 ps0 pl0 pr0 pm0) (S.bind nm)).2.n,(tmE (.mk p0 pa0 pn0 pi0 ps0 pl0 pr0 pm0) (S.bind nm)).2):=by rw[hargs];simp[Bf,Pi]
 rw[hEs];dsimp only;clear hEs hargs;have hsz:=HNS.out;have cB:=fun W (hW:Dg w0 P S A c W)=>Hz (Ju hW nm (by have:=HB.out.2.2;omega) HB.out.1 (by have:=HB.out.2.1;omega))
 have hSB:SB (S.bind nm) (szE (.mk p0 pa0 pn0 pi0 ps0 pl0 pr0 pm0)):=SB.step (HB.out.mono oM) (Gr.bind S nm);obtain⟨r,hr⟩:=Gd S nm;have hml:S.l.length≤(S.bind nm).l.length:=by rw[hr,La'];omega
 have cW:=fun W A2 c2 hW=>Hz (Jc N IH.out p0 pa0 pn0 pi0 ps0 pl0 pr0 pm0 P50 P60 P70 q50 q60 q70 w0 W ok P (S.bind nm) A2 c2 S.l.length oM hmx0 hwx0 hx0 hW hSB hml)
 generalize S.bind nm=S1 at *
 generalize (tmE (.mk p0 pa0 pn0 pi0 ps0 pl0 pr0 pm0) S1).1=X at *
 generalize (tmE (.mk p0 pa0 pn0 pi0 ps0 pl0 pr0 pm0) S1).2.cut S.l.length=S3 at *
 clear hmx0 hwx0 hx0 hsz hSB hr hml hszE HNS hsz0;have kqq81:=@Hz _ @nn233;exact qq81):p:=h
theorem nn587(h:p:=by
 clear c0;refine(cB x5 T0.st.1).out.mono ?_;rintro e x6 ⟨A1,c1,rfl,hst⟩;have T1:=T0.step hP hst;have kqq65:=@Hz _ @nn178;exact qq65):p:=h
theorem nn611(h:p:=by
 have t16:(k==16)=false:=by simp;omega
 have t17:(k==17)=false:=by simp;omega
 have hal:args.length=1:=Jv (h:=⟨true,false,false,false,1,false⟩) (by rw[hk0];rfl) hfo;have hszE:1+Bk args≤szE (.mk k a nm n s ls args arms):=by rw[szE];omega
 have kqq230:=@Hz _ @nn435;exact qq230):p:=h
theorem nn720(h:p:=by
 have T2:TSt w0 P A w (.cells #[vI k,vI a,vS nm,vI n,vS s,.slice A5 ls.length c5,.slice (some ⟨g,o,none⟩) args.length c6,.slice A7 arms.length c7] 27) #[vI 7,vI a,vI S.n,vI 0,vE,vZ,vZ,vZ] S1 A1 c1 ((x6.setCell ⟨w.heap.size+1+1,0,none⟩ (vI 7)).setCell ⟨w.heap.size+1+1,2,none⟩ (vI S.n)):=(HT.out.set hP HLE.out 0 (vI 7)).set hP HLE.out 2 (vI S.n)
 generalize (x6.setCell ⟨w.heap.size+1+1,0,none⟩ (vI 7)).setCell ⟨w.heap.size+1+1,2,none⟩ (vI S.n)=x7 at *
 refine(cW x7 A1 c1 T2.st.1).out.mono ?_;rintro e x8 ⟨k1,a1,v1,n1,s1,B51,n51,e51,B61,n61,e61,B71,n71,e71,A2,c2,rfl,hX1,hst2⟩;have T3:=T2.step hP hst2;clear l0 l1 l2 l3 l4 l5 l6 l7 f0 f1 f2 f3 f4 f5 f6 f7 u0 u1 u2 u3 u4 u5 u6 u7 z0 z1 z2 z3 z4 z5 z6 z7 i0 i1 i2 i3 i4 i5 i6 i7 j0 j1 j2 j3 j4 j5 j6 j7 HT nTR nRT;have kqq100:=@Hz _ @nn278;exact qq100):p:=h
theorem term_7(N:Nat)(ih:TMC N)(k:Int)(hk0:k=7):Rb (N+1) k:=by
 have kqq116:=@Hz _ @nn311;exact qq116
end
structure Kr (w0:World)(P:Nat)(A:Option Addr)(w:World)(eo:Obj)(t:Array Value)(D Q:Nat)(oD o1 o2 o3:Obj)(X:At)(C:List Value)(S1:Sc)(A1:Option Addr)(c1:Nat)(x:World):Prop where
 ts:TSt w0 P A w eo t S1 A1 c1 x
 xa:Au x (LOk (w.heap.size+3) Q A1) X C
 d:x.heap[D]?=some oD
 q1:x.heap[Q]?=some o1
 q2:x.heap[Q+1]?=some o2
 q3:x.heap[Q+1+1]?=some o3
 ap:∀ a,A1=some a→(a.block<Q∧a.block≠D)∨Q+3≤a.block
 dq:D<Q
 lo:w.heap.size+3≤Q
 sz:Q+3≤x.heap.size
section
variable {w0 w x x':World} {P:Nat} {A A1 A2:Option Addr} {S1 S2:Sc} {c1 c2 D Q:Nat} {eo oD o1 o2 o3:Obj} {t:Array Value} {X:At} {C:List Value}
theorem Kr.out(h:Kr w0 P A w eo t D Q oD o1 o2 o3 X C S1 A1 c1 x)(hP:P<w.heap.size){k:Nat}(hk:k=D∨Q≤k∧k<Q+3)(hD:w.heap.size≤D):k ∉ scL P A1:=fun hx=>by
 have:=h.lo;have:=h.dq
 rcases Ay.1 hx with e|⟨a,e,e2⟩
 ·omega
 ·have:=h.ap a e;omega
theorem Kr.fr0(h:Kr w0 P A w eo t D Q oD o1 o2 o3 X C S1 A1 c1 x)(f:Fr [] x x'):Kr w0 P A w eo t D Q oD o1 o2 o3 X C S1 A1 c1 x' :=
 ⟨h.ts.fr0 f,h.xa.keep (Sl (Oz f)),f.keep h.d (fun x=>by cases x),f.keep h.q1 (fun x=>by cases x),f.keep h.q2 (fun x=>by cases x),f.keep h.q3 (fun x=>by cases x),h.ap,h.dq,h.lo,Nat.le_trans h.sz f.size⟩
theorem Kr.step(h:Kr w0 P A w eo t D Q oD o1 o2 o3 X C S1 A1 c1 x)(hP:P<w.heap.size)(hD:w.heap.size≤D)(k:Stp w0 P A1 x S2 A2 c2 x'):Kr w0 P A w eo t D Q oD o1 o2 o3 X C S2 A2 c2 x' :=
 ⟨h.ts.step hP k,h.xa.keep (Sl (Iu h.ts.st.1 oM (Fr.refl [] _) k)),k.2.1.keep h.d (h.out hP (.inl rfl) hD),k.2.1.keep h.q1 (h.out hP (.inr oM) hD),k.2.1.keep h.q2 (h.out hP (.inr oM) hD),k.2.1.keep h.q3 (h.out hP (.inr oM) hD),fun a e=>by
  rcases k.2.2 a e with h1|h1
  ·exact h.ap a h1
  ·have:=h.sz;omega,h.dq,h.lo,Nat.le_trans h.sz k.2.1.size⟩
theorem Kr.grown(h:Kr w0 P A w eo t D Q oD o1 o2 o3 X C S1 A1 c1 x)(hP:P<w.heap.size)(h0:w0.heap.size≤w.heap.size){V:Value}(hV:∀ g,V.ownBlock=some g→Q+3≤g∧∀ a,A1=some a→a.block≠g)(hg:x.grownBy x' V.ownBlock):Kr w0 P A w eo t D Q oD o1 o2 o3 X C S1 A1 c1 x':=by
 have hf:Fr V.ownBlock.toList x x':=(Fr.refl V.ownBlock.toList x).grown hg (fun k e => .inl (by rw[e];simp))
 have hb:∀ k ∈ V.ownBlock.toList,Q+3≤k∧∀ a,A1=some a→a.block≠k:=fun k hk=>by
  simp only[Option.mem_toList] at hk;exact hV k hk
 have h1:=h.lo;have h2:=h.dq
 exact⟨⟨hf.keep h.ts.e (fun hx=>by have:=hb _ hx;omega),hf.keep h.ts.r (fun hx=>by have:=hb _ hx;omega),hf.keep h.ts.t (fun hx=>by have:=hb _ hx;omega),h.ts.st.fresh hf (fun hx=>by have:=hb _ hx;omega) (fun a e hx=>(hb _ hx).2 a e rfl) h0 (fun k hk=>by have:=hb k hk;omega),h.ts.ap,Nat.le_trans h.ts.sz hf.size⟩,
  h.xa.keep (sh_grow hg (fun g e=>by have:=hV g e;omega)),hf.keep h.d (fun hx=>by have:=hb _ hx;omega),hf.keep h.q1 (fun hx=>by have:=hb _ hx;omega),hf.keep h.q2 (fun hx=>by have:=hb _ hx;omega),hf.keep h.q3 (fun hx=>by have:=hb _ hx;omega),h.ap,h.dq,h.lo,Nat.le_trans h.sz hf.size⟩
end
section
attribute [local go_sem ↓] Go.wp_at_zero Go.wp_at_succ
def Mb(Q:Nat)(A1:Option Addr)(g:Nat)(O:Obj)(x:World):Prop:=Q+3≤g∧x.heap[g]?=some O∧∀ a,A1=some a→a.block≠g
def ROk(B Q:Nat)(A1:Option Addr)(b5:Bool)(g5:Nat)(b6:Bool)(g6:Nat)(bp bf:Bool)(g14 b:Nat):Prop:=(bp=true∧b=Q+1∨Q+3≤b)∧TOk B A1 b∧(b5=true→b≠g5)∧(b6=true→b≠g6)∧(bf=true→b≠g14)
def Nh(w0:World)(P:Nat)(A:Option Addr)(w:World)(eo:Obj)(t:Array Value)(D Q:Nat)(oD o1 o2 o3:Obj)(X:At)(C:List Value)(S2 S3:Sc)(YS:List (Bp×At))(L:Bp×At)(O5 O6 O14:Obj)(b5 bc b6 bp bf:Bool)(g5 g6 g14:Nat)(vc vp:Value)(x:World):Prop :=
 ∃ A1 c1,Kr w0 P A w eo t D Q oD o1 o2 o3 X C (if bc then S3 else S2) A1 c1 x∧(b5=true→Mb Q A1 g5 O5 x)∧(b6=true→Mb Q A1 g6 O6 x)∧(bf=true→Mb Q A1 g14 O14 x)∧(b5=true→b6=true→g5≠g6)∧(b5=true→bf=true→g5≠g14)∧(b6=true→bf=true→g6≠g14)∧
  (bc=true→∃ cs,Qc x (ROk (w.heap.size+3) Q A1 b5 g5 b6 g6 bp bf g14) (if bp then vp else vc) (if bp then YS++[L] else YS) cs)
section
variable {w0 w x x':World} {P:Nat} {A A1 A3:Option Addr} {eo:Obj} {t:Array Value} {D Q:Nat} {oD o1 o2 o3:Obj} {X:At} {C:List Value} {S1 S2 S3:Sc} {YS:List (Bp×At)} {L:Bp×At} {O O5 O6 O14:Obj} {b5 bc b6 bp bf:Bool} {g g5 g6 g14 c1 c3:Nat} {vc vp:Value}
theorem Mb.alloc(h:Mb Q A1 g O x)(O':Obj):Mb Q A1 g O (x.alloc O'):=⟨h.1,Ae h.2.1 O',h.2.2⟩
theorem Mb.step(h:Mb Q A1 g O x)(hP:P<Q)(hs:Stp w0 P A1 x S3 A3 c3 x'):Mb Q A3 g O x' :=
 ⟨h.1,hs.2.1.keep h.2.1 (fun hx=>by
  have h1:=h.1
  rcases Ay.1 hx with e|⟨a,e,e2⟩
  ·omega
  ·exact h.2.2 a e e2.symm),hs.apart h.2.2 (Aa h.2.1)⟩
theorem Mb.grown(h:Mb Q A1 g O x){V:Value}(hg:x.grownBy x' V.ownBlock)(hV:V.ownBlock≠some g):Mb Q A1 g O x' :=
 ⟨h.1,(hg.block g (Aa h.2.1) (fun e=>hV e.symm)).trans h.2.1,h.2.2⟩
theorem Kr.new(h:Kr w0 P A w eo t D Q oD o1 o2 o3 X C S1 A1 c1 x)(O:Obj):Mb Q A1 x.heap.size O (x.alloc O):=⟨h.sz,Ag x O,fun a e=>by have:=h.ts.st.1.own_lt a e;omega⟩
theorem Nh.t5(h:Nh w0 P A w eo t D Q oD o1 o2 o3 X C S2 S3 YS L O5 O6 O14 false bc b6 bp bf g5 g6 g14 vc vp x):Nh w0 P A w eo t D Q oD o1 o2 o3 X C S2 S3 YS L O5 O6 O14 true bc b6 bp bf x.heap.size g6 g14 vc vp (x.alloc O5):=by
 obtain⟨A1,c1,hx,-,h6,hf,-,-,d3,hr⟩:=h;refine⟨A1,c1,hx.fr0 ((Fr.refl [] x).alloc _),fun _=>hx.new O5,fun e=>(h6 e).alloc _,fun e=>(hf e).alloc _,fun _ e=>?_,fun _ e=>?_,d3,fun e=>?_⟩
 ·have:=Aa (h6 e).2.1;omega
 ·have:=Aa (hf e).2.1;omega
 ·obtain⟨cs,hr⟩:=hr e;exact⟨cs,hr.keep Gt (fun b hb hlt=>⟨⟨hb.1,hb.2.1,fun _=>by omega,hb.2.2.2.1,hb.2.2.2.2⟩,Below.heap_alloc _ _ _ hlt,by simp;omega⟩)⟩
theorem Nh.t6(h:Nh w0 P A w eo t D Q oD o1 o2 o3 X C S2 S3 YS L O5 O6 O14 b5 bc false bp bf g5 g6 g14 vc vp x):Nh w0 P A w eo t D Q oD o1 o2 o3 X C S2 S3 YS L O5 O6 O14 b5 bc true bp bf g5 x.heap.size g14 vc vp (x.alloc O6):=by
 obtain⟨A1,c1,hx,h5,-,hf,-,d2,-,hr⟩:=h;refine⟨A1,c1,hx.fr0 ((Fr.refl [] x).alloc _),fun e=>(h5 e).alloc _,fun _=>hx.new O6,fun e=>(hf e).alloc _,fun e _=>?_,d2,fun _ e=>?_,fun e=>?_⟩
 ·have:=Aa (h5 e).2.1;omega
 ·have:=Aa (hf e).2.1;omega
 ·obtain⟨cs,hr⟩:=hr e;exact⟨cs,hr.keep Gt (fun b hb hlt=>⟨⟨hb.1,hb.2.1,hb.2.2.1,fun _=>by omega,hb.2.2.2.2⟩,Below.heap_alloc _ _ _ hlt,by simp;omega⟩)⟩
theorem Nh.tf(h:Nh w0 P A w eo t D Q oD o1 o2 o3 X C S2 S3 YS L O5 O6 O14 b5 bc b6 bp false g5 g6 g14 vc vp x):Nh w0 P A w eo t D Q oD o1 o2 o3 X C S2 S3 YS L O5 O6 O14 b5 bc b6 bp true g5 g6 x.heap.size vc vp (x.alloc O14):=by
 obtain⟨A1,c1,hx,h5,h6,-,d1,-,-,hr⟩:=h;refine⟨A1,c1,hx.fr0 ((Fr.refl [] x).alloc _),fun e=>(h5 e).alloc _,fun e=>(h6 e).alloc _,fun _=>hx.new O14,d1,fun e _=>?_,fun e _=>?_,fun e=>?_⟩
 ·have:=Aa (h5 e).2.1;omega
 ·have:=Aa (h6 e).2.1;omega
 ·obtain⟨cs,hr⟩:=hr e;exact⟨cs,hr.keep Gt (fun b hb hlt=>⟨⟨hb.1,hb.2.1,hb.2.2.1,hb.2.2.2.1,fun _=>by omega⟩,Below.heap_alloc _ _ _ hlt,by simp;omega⟩)⟩
theorem Nh.tc(hP:P<w.heap.size)(hD:w.heap.size≤D)(h:Nh w0 P A w eo t D Q oD o1 o2 o3 X C S2 S3 YS L O5 O6 O14 b5 false b6 false bf g5 g6 g14 vc vp x):
  ∃ A1 c1,Dg w0 P S2 A1 c1 x∧∀ x' v cs A3 c3,Stp w0 P A1 x S3 A3 c3 x'→Qc x' (TOk x.heap.size A3) v YS cs→Nh w0 P A w eo t D Q oD o1 o2 o3 X C S2 S3 YS L O5 O6 O14 b5 true b6 false bf g5 g6 g14 v vp x':=by
 obtain⟨A1,c1,hx,h5,h6,hf,d1,d2,d3,-⟩:=h;have hx:Kr w0 P A w eo t D Q oD o1 o2 o3 X C S2 A1 c1 x:=hx;have hPQ:P<Q:=by have:=hx.lo;omega
 have hsz:=hx.sz;have hlo:=hx.lo;refine⟨A1,c1,hx.ts.st.1,fun x' v cs A3 c3 hs hr=>⟨A3,c3,hx.step hP hD hs,fun e=>(h5 e).step hPQ hs,fun e=>(h6 e).step hPQ hs,fun e=>(hf e).step hPQ hs,d1,d2,d3,fun _=>⟨cs,hr.keep Gt (fun b hb hlt=>?_)⟩⟩⟩;have hb1:=hb.1;exact⟨⟨.inr oM,⟨oM,hb.2⟩,fun e=>by have:=Aa (h5 e).2.1;omega,fun e=>by have:=Aa (h6 e).2.1;omega,fun e=>by have:=Aa (hf e).2.1;omega⟩,rfl,hlt⟩
theorem Nh.tp(hP:P<w.heap.size)(h0:w0.heap.size≤w.heap.size){C6:List Value}(hC6:C6.length=14)(hL:∀ y:World,y.heap[Q+1]?=some o2→J0 y (fun b=>b=Q+1) L C6)
  (h:Nh w0 P A w eo t D Q oD o1 o2 o3 X C S2 S3 YS L O5 O6 O14 b5 true true false bf g5 g6 g14 vc vp x):
  x.heap[g6]?=some O6∧∃ cs,x.ownsRow 0 78 14 vc YS.length (Co cs YS.length)∧∀ v' w9,w9.ownsRow 0 78 14 v' (YS.length+1) (Co cs YS.length++C6)→x.grownBy w9 vc.ownBlock→Qb vc v' x.heap.size→Nh w0 P A w eo t D Q oD o1 o2 o3 X C S2 S3 YS L O5 O6 O14 b5 true true true bf g5 g6 g14 vc v' w9:=by
 obtain⟨A1,c1,hx,h5,h6,hf,d1,d2,d3,hr⟩:=h;obtain⟨cs,hr⟩:=hr rfl;have hr:Qc x (ROk (w.heap.size+3) Q A1 b5 g5 true g6 false bf g14) vc YS cs:=hr;have hsz:=hx.sz;have hlo:=hx.lo
 have hq:∀ b,vc.ownBlock=some b→Q+3≤b∧TOk (w.heap.size+3) A1 b∧(b5=true→b≠g5)∧b≠g6∧(bf=true→b≠g14):=fun b e=>by
  obtain⟨q1,q2,q3,q4,q5⟩:=hr.blk b e;exact⟨by rcases q1 with⟨q,_⟩| q;cases q;exact q,q2,q3,q4 rfl,q5⟩
 refine⟨(h6 rfl).2.1,cs,hr.own,fun v' w9 hown hgrow hfp=>⟨A1,c1,hx.grown hP h0 (fun g e=>⟨(hq g e).1,(hq g e).2.1.2⟩) hgrow,fun e=>(h5 e).grown hgrow (fun e2=>(hq _ e2).2.2.1 e rfl),fun e=>(h6 e).grown hgrow (fun e2=>(hq _ e2).2.2.2.1 rfl),fun e=>(hf e).grown hgrow (fun e2=>(hq _ e2).2.2.2.2 e rfl),d1,d2,d3,fun _=>⟨_,An.app (ok:=ROk (w.heap.size+3) Q A1 b5 g5 true g6 true bf g14) (okx:=fun b=>b=Q+1) Gt (hr.keep Gt (fun b hb hlt=>⟨⟨by rcases hb.1 with⟨q,_⟩| q;cases q;exact .inr q,hb.2⟩,rfl,hlt⟩)) (hL x hx.q2) hC6 (fun b hb hlt=>?_) hown hgrow hfp (fun b hb=>?_)⟩⟩⟩
 ·have hb:b=Q+1:=hb;subst hb;refine⟨⟨.inl ⟨rfl,rfl⟩,⟨oM,fun a e e2=>?_⟩,fun e=>?_,fun e=>?_,fun e=>?_⟩,fun e=>?_⟩
  ·have:=hx.ap a e;omega
  ·have:=(h5 e).1;omega
  ·have:=(h6 e).1;omega
  ·have:=(hf e).1;omega
  ·have:=(hq _ e).1;omega
 ·refine⟨.inr oM,⟨oM,fun a e e2=>?_⟩,fun e=>?_,fun e=>?_,fun e=>?_⟩
  ·have:=hx.ts.st.1.own_lt a e;omega
  ·have:=Aa (h5 e).2.1;omega
  ·have:=Aa (h6 e).2.1;omega
  ·have:=Aa (hf e).2.1;omega
end
def L6(a0:Act)(k:Int)(b5 bc b6 bp bb bf:Bool)(g5 g6 g14:Nat)(vc vp:Value):Act :=
 pu (pu (pu (pu (pu (pu a0 b5 195 (.slice (some ⟨g5,0,none⟩) 1 1)) bc 199 vc) b6 201 (.slice (some ⟨g6,0,none⟩) 1 1)) bp 202 vp) bb 203 (.agg #[vI 16,vI k,vI 0,vI 0,vE,vZ,.slice (some ⟨g5,0,none⟩) 1 1,vp])) bf 14 (.pointer (some ⟨g14,0,none⟩))
theorem Ng{P:Program}{ops:Array Oper}{Q:Exit→Act→World→Prop}{K:Act→World→Prop}{a:Act}{w:World}{i:Nat}{o:Oper}(hi:ops[i]?=some o)(hg:o.guard=none)(h:Oper.wp P o a w K Q):wpOp P ops Q i K a w:=by
 unfold wpOp;simp only[hi];rw[if_pos (by simp[Region.wanted,hg])];exact .inl h
section
variable {Q:Exit→Act→World→Prop} {K:Act→World→Prop} {a:Act} {w:World} {ty:TypeId} {ps:String} {af:Array Edge}
theorem op_bs5{c0 c1 c2 c3 c4 c5 c6 c7:Value}(h:a.eval (.tmp 194)= .agg #[c0,c1,c2,c3,c4,c5,c6,c7])(hK:K (a.put (some 195) (.slice (some ⟨w.heap.size,0,none⟩) 1 1)) (w.alloc (.cells #[c0,c1,c2,c3,c4,c5,c6,c7] 34))):
  Oper.wp prog ⟨some 195,.buildSlice 31 1 #[(0,.tmp 194)],ty,ps,af,none⟩ a w K Q:=by
 have h':a.tmps[194]?.getD undef = .agg #[c0,c1,c2,c3,c4,c5,c6,c7]:=by simpa [Act.eval] using h
 clear h;go_simp;exact hK
theorem op_bs6{c0 c1 c2 c3 c4 c5 c6 c7 c8 c9 c10 c11 c12 c13:Value}(h:a.eval (.tmp 200)= .agg #[c0,c1,c2,c3,c4,c5,c6,c7,c8,c9,c10,c11,c12,c13])(hK:K (a.put (some 201) (.slice (some ⟨w.heap.size,0,none⟩) 1 1)) (w.alloc (.cells #[c0,c1,c2,c3,c4,c5,c6,c7,c8,c9,c10,c11,c12,c13] 78))):
  Oper.wp prog ⟨some 201,.buildSlice 32 1 #[(0,.tmp 200)],ty,ps,af,none⟩ a w K Q:=by
 have h':a.tmps[200]?.getD undef = .agg #[c0,c1,c2,c3,c4,c5,c6,c7,c8,c9,c10,c11,c12,c13]:=by simpa [Act.eval] using h
 clear h;go_simp;exact hK
theorem op_al(hK:K (a.put (some 14) (.pointer (some ⟨w.heap.size,0,none⟩))) (w.alloc Dj)):Oper.wp prog ⟨some 14,.alloc 34,ty,ps,af,none⟩ a w K Q:=by
 go_simp;exact hK
theorem op_bd{k:Int}{v5 vp:Value}{g5:Nat}{A9:Option Addr}{n9 c9:Nat}(h1:a.eval (.tmp 193)=vI k)(h2:a.eval (.tmp 195)= .slice (some ⟨g5,0,none⟩) 1 1)(h3:a.eval (.tmp 202)= .slice A9 n9 c9)
  (hK:K (a.put (some 203) (.agg #[vI 16,vI k,vI 0,vI 0,vE,vZ,.slice (some ⟨g5,0,none⟩) 1 1,.slice A9 n9 c9])) w):
  Oper.wp prog ⟨some 203,.build 34 #[(0,.const (vI 16)),(1,.tmp 193),(6,.tmp 195),(7,.tmp 202)],ty,ps,af,none⟩ a w K Q:=by
 have h1':a.tmps[193]?.getD undef=vI k:=by simpa [Act.eval] using h1
 have h2':a.tmps[195]?.getD undef = .slice (some ⟨g5,0,none⟩) 1 1:=by simpa [Act.eval] using h2
 have h3':a.tmps[202]?.getD undef = .slice A9 n9 c9:=by simpa [Act.eval] using h3
 clear h1 h2 h3;go_simp;exact hK
theorem op_cs{P:Nat}{A7:Option Addr}{n c7:Nat}{R:Ending→World→Prop} {at':Array TypeId}(h1:a.eval (.tmp 196)= .pointer (some ⟨P,0,none⟩))(h2:a.eval (.tmp 198)= .slice A7 n c7)
  (hC:Calls prog 43 #[.pointer (some ⟨P,0,none⟩),.slice A7 n c7] w R) (hK:∀ e w',R e w'→∃ v,e = .returned v∧K (a.put (some 199) v) w'):
  Oper.wp prog ⟨some 199,.call { callee:=.value (.func 43),args:=#[.tmp 196,.tmp 198],argTypes:=at' },ty,ps,af,none⟩ a w K Q:=by
 have h1':a.tmps[196]?.getD undef = .pointer (some ⟨P,0,none⟩):=by simpa [Act.eval] using h1
 have h2':a.tmps[198]?.getD undef = .slice A7 n c7:=by simpa [Act.eval] using h2
 clear h1 h2;have HK:Hid (∀ e w',R e w'→∃ v,e = .returned v∧K (a.put (some 199) v) w'):=Hz hK;clear hK;go_simp;refine hC.mono (fun e w' he=>?_);obtain⟨v,rfl,h⟩:=HK.out e w' he;exact h
end
def Jd(w0:World)(P:Nat)(A:Option Addr)(w:World)(eo:Obj)(t:Array Value)(D Q:Nat)(oD o1 o2 o3:Obj)(X:At)(C:List Value)(S2 S3:Sc)(YS:List (Bp×At))(L:Bp×At)(O5 O6 O14:Obj)(a0:Act)(k:Int)(b5 bc b6 bp bb bf:Bool)(a:Act)(x:World):Prop :=
 ∃ g5 g6 g14 vc A9 n9 d9,a=L6 a0 k b5 bc b6 bp bb bf g5 g6 g14 vc (.slice A9 n9 d9)∧Nh w0 P A w eo t D Q oD o1 o2 o3 X C S2 S3 YS L O5 O6 O14 b5 bc b6 bp bf g5 g6 g14 vc (.slice A9 n9 d9) x
theorem J9(a:Act)(d:Nat)(v:Value):pu a false d v=a:=rfl
section
variable {w0 w x:World} {P:Nat} {A:Option Addr} {eo:Obj} {t:Array Value} {D Q:Nat} {oD o1 o2 o3:Obj} {X:At} {C:List Value} {S2 S3:Sc} {YS:List (Bp×At)} {L:Bp×At} {O14:Obj} {a0:Act} {k V:Int} {ops:Array Oper} {QQ:Exit→Act→World→Prop} {ty:TypeId} {ps:String} {af:Array Edge} {a:Act} {K:Act→World→Prop} {b5 bc b6 bp bb bf:Bool}
theorem Jd.s5{c0 c1 c2 c3 c4 c5 c6 c7:Value}{O6:Obj}(hi:ops[3]?=some ⟨some 195,.buildSlice 31 1 #[(0,.tmp 194)],ty,ps,af,none⟩)(h1:a0.eval (.tmp 194)= .agg #[c0,c1,c2,c3,c4,c5,c6,c7])
  (h:Jd w0 P A w eo t D Q oD o1 o2 o3 X C S2 S3 YS L (.cells #[c0,c1,c2,c3,c4,c5,c6,c7] 34) O6 O14 a0 k false bc b6 bp false bf a x)
  (hK:∀ a' w',Jd w0 P A w eo t D Q oD o1 o2 o3 X C S2 S3 YS L (.cells #[c0,c1,c2,c3,c4,c5,c6,c7] 34) O6 O14 a0 k true bc b6 bp false bf a' w'→K a' w'):wpOp prog ops QQ 3 K a x:=by
 obtain⟨g5,g6,g14,vc,A9,n9,d9,rfl,h⟩:=h;refine Ng hi rfl (op_bs5 (by unfold L6;rw[Bx dC,Bx dC,Bx dC,Bx dC,Bx dC,Bx dC];exact h1) (hK _ _ ⟨x.heap.size,g6,g14,vc,A9,n9,d9,?_,h.t5⟩));unfold L6;rw[Ly dC,J9 _ 203,Ly dC,Ly dC,Ly dC];rfl
theorem Jd.s6{c0 c1 c2 c3 c4 c5 c6 c7 c8 c9 c10 c11 c12 c13:Value}{O5:Obj}(hi:ops[9]?=some ⟨some 201,.buildSlice 32 1 #[(0,.tmp 200)],ty,ps,af,none⟩)(h1:a0.eval (.tmp 200)= .agg #[c0,c1,c2,c3,c4,c5,c6,c7,c8,c9,c10,c11,c12,c13])
  (h:Jd w0 P A w eo t D Q oD o1 o2 o3 X C S2 S3 YS L O5 (.cells #[c0,c1,c2,c3,c4,c5,c6,c7,c8,c9,c10,c11,c12,c13] 78) O14 a0 k b5 bc false false false bf a x)
  (hK:∀ a' w',Jd w0 P A w eo t D Q oD o1 o2 o3 X C S2 S3 YS L O5 (.cells #[c0,c1,c2,c3,c4,c5,c6,c7,c8,c9,c10,c11,c12,c13] 78) O14 a0 k b5 bc true false false bf a' w'→K a' w'):wpOp prog ops QQ 9 K a x:=by
 obtain⟨g5,g6,g14,vc,A9,n9,d9,rfl,h⟩:=h;refine Ng hi rfl (op_bs6 (by unfold L6;rw[Bx dC,Bx dC,Bx dC,Bx dC,Bx dC,Bx dC];exact h1) (hK _ _ ⟨g5,x.heap.size,g14,vc,A9,n9,d9,?_,h.t6⟩));unfold L6;rw[Ly dC,J9 _ 203,J9 _ 202];rfl
theorem Jd.sf{O5 O6:Obj}(hi:ops[12]?=some ⟨some 14,.alloc 34,ty,ps,af,none⟩)
  (h:Jd w0 P A w eo t D Q oD o1 o2 o3 X C S2 S3 YS L O5 O6 Dj a0 k b5 bc b6 bp bb false a x)
  (hK:∀ a' w',Jd w0 P A w eo t D Q oD o1 o2 o3 X C S2 S3 YS L O5 O6 Dj a0 k b5 bc b6 bp bb true a' w'→K a' w'):wpOp prog ops QQ 12 K a x:=by
 obtain⟨g5,g6,g14,vc,A9,n9,d9,rfl,h⟩:=h;exact Ng hi rfl (op_al (hK _ _ ⟨g5,g6,x.heap.size,vc,A9,n9,d9,rfl,h.tf⟩))
theorem Jd.sb{O5 O6:Obj}(hi:ops[11]?=some ⟨some 203,.build 34 #[(0,.const (vI 16)),(1,.tmp 193),(6,.tmp 195),(7,.tmp 202)],ty,ps,af,none⟩)(h1:a0.eval (.tmp 193)=vI k)(hz:a0.tmps.size=209)
  (h:Jd w0 P A w eo t D Q oD o1 o2 o3 X C S2 S3 YS L O5 O6 O14 a0 k true true true true false bf a x)
  (hK:∀ a' w',Jd w0 P A w eo t D Q oD o1 o2 o3 X C S2 S3 YS L O5 O6 O14 a0 k true true true true true bf a' w'→K a' w'):wpOp prog ops QQ 11 K a x:=by
 obtain⟨g5,g6,g14,vc,A9,n9,d9,rfl,h⟩:=h;refine Ng hi rfl (op_bd (k:=k) (v5:=undef) (vp:=undef) (g5:=g5) (A9:=A9) (n9:=n9) (c9:=d9) ?_ ?_ ?_ (hK _ _ ⟨g5,g6,g14,vc,A9,n9,d9,?_,h⟩))
 ·unfold L6;rw[Bx dC,Bx dC,Bx dC,Bx dC,Bx dC,Bx dC];exact h1
 ·unfold L6;rw[Bx dC,Bx dC,Bx dC,Bx dC,Bx dC,Vl oM]
 ·unfold L6;rw[Bx dC,Bx dC,Vl (by simp only[Vm];omega)]
 ·unfold L6;rw[Ly dC,J9 _ 203];rfl
theorem Jd.sc{O5 O6:Obj}{A7:Option Addr}{n c7:Nat} {at':Array TypeId}(hi:ops[7]?=some ⟨some 199,.call { callee:=.value (.func 43),args:=#[.tmp 196,.tmp 198],argTypes:=at' },ty,ps,af,none⟩)(h1:a0.eval (.tmp 196)= .pointer (some ⟨P,0,none⟩))(h2:a0.eval (.tmp 198)= .slice A7 n c7)
  (hP:P<w.heap.size) (hD:w.heap.size≤D) (hC:∀ W A2 c2,Dg w0 P S2 A2 c2 W→Calls prog 43 #[.pointer (some ⟨P,0,none⟩),.slice A7 n c7] W (CsRes w0 P A2 W YS S3))
  (h:Jd w0 P A w eo t D Q oD o1 o2 o3 X C S2 S3 YS L O5 O6 O14 a0 k b5 false b6 false false bf a x)
  (hK:∀ a' w',Jd w0 P A w eo t D Q oD o1 o2 o3 X C S2 S3 YS L O5 O6 O14 a0 k b5 true b6 false false bf a' w'→K a' w'):wpOp prog ops QQ 7 K a x:=by
 obtain⟨g5,g6,g14,vc,A9,n9,d9,rfl,h⟩:=h;obtain⟨A1,c1,hs,hn⟩:=h.tc hP hD;refine Ng hi rfl (op_cs (P:=P) (A7:=A7) (n:=n) (c7:=c7) ?_ ?_ (hC x A1 c1 hs) ?_)
 ·unfold L6;rw[Bx dC,Bx dC,Bx dC,Bx dC,Bx dC,Bx dC];exact h1
 ·unfold L6;rw[Bx dC,Bx dC,Bx dC,Bx dC,Bx dC,Bx dC];exact h2
 ·rintro e w' ⟨A8,c8,cs,A3,c3,rfl,hr,hs3⟩;refine⟨_,rfl,hK _ _ ⟨g5,g6,g14,_,A9,n9,d9,?_,hn w' _ cs A3 c3 hs3 hr⟩⟩;unfold L6;rw[Ly dC,J9 _ 203,J9 _ 202,Ly dC];rfl
theorem Jd.sp{O5:Obj}{c0 c1 c2 c3 c4 c5 c6 c7 c8 c9 c10 c11 c12 c13:Value}{i0:TypeInfo}(hI:prog.info? 78=some i0)(hZ0:i0.zero=some (.agg #[vI 0,vI 0,vI 0,vE,vZ,vZ,vI 0,vI 0,vI 0,vI 0,vE,vZ,vZ,vZ]))(hZ1:i0.size=14)(hZ2:i0.bytes=208)
  (hi:ops[10]?=some ⟨some 202,.call { callee:=.builtin .append,args:=#[.tmp 199,.tmp 201],argTypes:=#[32,32] },ty,ps,af,none⟩) (hz:a0.tmps.size=209) (hP:P<w.heap.size) (h0:w0.heap.size≤w.heap.size) (hlen:YS.length≤650000000000)
  (h1c:∀ u ∈ [c0,c1,c2,c3,c4,c5,c6,c7,c8,c9,c10,c11,c12,c13],u.oneCell'=true) (hL:∀ y:World,y.heap[Q+1]?=some o2→J0 y (fun b=>b=Q+1) L [c0,c1,c2,c3,c4,c5,c6,c7,c8,c9,c10,c11,c12,c13])
  (h:Jd w0 P A w eo t D Q oD o1 o2 o3 X C S2 S3 YS L O5 (.cells #[c0,c1,c2,c3,c4,c5,c6,c7,c8,c9,c10,c11,c12,c13] 78) O14 a0 k b5 true true false false bf a x)
  (hK:∀ a' w',Jd w0 P A w eo t D Q oD o1 o2 o3 X C S2 S3 YS L O5 (.cells #[c0,c1,c2,c3,c4,c5,c6,c7,c8,c9,c10,c11,c12,c13] 78) O14 a0 k b5 true true true false bf a' w'→K a' w'):wpOp prog ops QQ 10 K a x:=by
 obtain⟨g5,g6,g14,vc,A9,n9,d9,rfl,h⟩:=h;obtain⟨h6,cs,hown,hn⟩:=h.tp hP h0 rfl hL
 have hst:=Av (P:=prog) (w:=x) (ops:=ops) (o:=⟨some 202,.call { callee:=.builtin .append,args:=#[.tmp 199,.tmp 201],argTypes:=#[32,32] },ty,ps,af,none⟩) (a:=L6 a0 k b5 true true false false bf g5 g6 g14 vc (.slice A9 n9 d9)) (K:=K) (Q:=QQ) (E:=False) rfl _ _ 32 rfl 78 i0 _ 14 208 underlying32 hI hZ0 hZ1 hZ2 rfl dC vc YS.length (Co cs YS.length)
  (by unfold L6;rw[Bx dC,Bx dC,Bx dC,Bx dC,Vl (by simp only[Vm];omega)]) hown ⟨g6,0,none⟩ 1 1 [c0,c1,c2,c3,c4,c5,c6,c7,c8,c9,c10,c11,c12,c13]
  (by unfold L6;rw[Bx dC,Bx dC,Bx dC,Vl (by simp only[Vm];omega)]) rfl (World.news_of_block h6) h1c (by simp only[maxLen];omega) oM
  (fun v' w9 hown9 hgrow9 hfp9=>by
   obtain⟨g9,cp9,rfl⟩:=Cd hown9
   refine hK _ _ ⟨g5,g6,g14,vc,_,_,_,?_,hn _ w9 hown9 hgrow9 hfp9⟩
   unfold L6
   rw[Ly dC,J9 _ 203];rfl)
 rw[if_pos (by simp[Region.wanted])] at hst;exact Ng hi rfl hst
end
theorem try_region{w0 w x:World}{P:Nat}{A A2:Option Addr}{eo:Obj}{t:Array Value}{D Q c2:Nat}{oD o1 o2 o3:Obj}{X:At}{C:List Value}{S2 S3:Sc}{YS:List (Bp×At)}{L:Bp×At}{a0:Act}{k:Int}{ops:Array Oper}{QQ:Exit→Act→World→Prop}{S:World→Prop}
  {ty3 ty7 ty9 ty10 ty11 ty12:TypeId} {ps3 ps7 ps9 ps10 ps11 ps12:String} {af3 af7 af9 af10 af11 af12:Array Edge} {at':Array TypeId} {b0 b1 b2 b3 b4 b5 b6 b7 c0 c1 c2' c3 c4 c5 c6 c7 c8 c9 c10 c11 c12 c13:Value} {i0:TypeInfo} {A7:Option Addr} {n7 d7:Nat}
  (hx:Kr w0 P A w eo t D Q oD o1 o2 o3 X C S2 A2 c2 x) (hS:∀ y:World,y.heap[w.heap.size]?=some eo→y.heap[Q]?=some o1→y.heap[Q+1+1]?=some o3→S y)
  (hI:prog.info? 78=some i0) (hZ0:i0.zero=some (.agg #[vI 0,vI 0,vI 0,vE,vZ,vZ,vI 0,vI 0,vI 0,vI 0,vE,vZ,vZ,vZ])) (hZ1:i0.size=14) (hZ2:i0.bytes=208)
  (hP:P<w.heap.size) (hD:w.heap.size≤D) (h0:w0.heap.size≤w.heap.size) (hlen:YS.length≤650000000000)
  (h1c:∀ u ∈ [c0,c1,c2',c3,c4,c5,c6,c7,c8,c9,c10,c11,c12,c13],u.oneCell'=true) (hL:∀ y:World,y.heap[Q+1]?=some o2→J0 y (fun b=>b=Q+1) L [c0,c1,c2',c3,c4,c5,c6,c7,c8,c9,c10,c11,c12,c13])
  (hC:∀ W A2 c2,Dg w0 P S2 A2 c2 W→Calls prog 43 #[.pointer (some ⟨P,0,none⟩),.slice A7 n7 d7] W (CsRes w0 P A2 W YS S3))
  (h193:a0.eval (.tmp 193)=vI k) (h194:a0.eval (.tmp 194)= .agg #[b0,b1,b2,b3,b4,b5,b6,b7]) (h196:a0.eval (.tmp 196)= .pointer (some ⟨P,0,none⟩)) (h198:a0.eval (.tmp 198)= .slice A7 n7 d7) (h200:a0.eval (.tmp 200)= .agg #[c0,c1,c2',c3,c4,c5,c6,c7,c8,c9,c10,c11,c12,c13]) (hz:a0.tmps.size=209)
  (hi3:ops[3]?=some ⟨some 195,.buildSlice 31 1 #[(0,.tmp 194)],ty3,ps3,af3,none⟩)
  (hi7:ops[7]?=some ⟨some 199,.call { callee:=.value (.func 43),args:=#[.tmp 196,.tmp 198],argTypes:=at' },ty7,ps7,af7,none⟩)
  (hi9:ops[9]?=some ⟨some 201,.buildSlice 32 1 #[(0,.tmp 200)],ty9,ps9,af9,none⟩)
  (hi10:ops[10]?=some ⟨some 202,.call { callee:=.builtin .append,args:=#[.tmp 199,.tmp 201],argTypes:=#[32,32] },ty10,ps10,af10,none⟩)
  (hi11:ops[11]?=some ⟨some 203,.build 34 #[(0,.const (vI 16)),(1,.tmp 193),(6,.tmp 195),(7,.tmp 202)],ty11,ps11,af11,none⟩)
  (hi12:ops[12]?=some ⟨some 14,.alloc 34,ty12,ps12,af12,none⟩)
  (hr:∀ b5 bc b6 bp bb bf,tOk b5 bc b6 bp bb=true→Region.ready .any ops (tL b5 bc b6 bp bb bf)=tRd b5 bc b6 bp bb bf)
  (fin:∀ (g5 g6 g14:Nat) (vc:Value) (A9:Option Addr) (n9 d9:Nat) (A1:Option Addr) (c1:Nat) (cs:Nat→List Value) (y:World),Kr w0 P A w eo t D Q oD o1 o2 o3 X C S3 A1 c1 y→Mb Q A1 g5 (.cells #[b0,b1,b2,b3,b4,b5,b6,b7] 34) y→Mb Q A1 g14 Dj y→g5≠g14 →
   Qc y (fun b=>TOk (w.heap.size+3) A1 b∧b≠g14) (.slice A9 n9 d9) (YS++[L]) cs→wpAnyH prog .any ops QQ S 1 (tL true true true true true true) (L6 a0 k true true true true true true g5 g6 g14 vc (.slice A9 n9 d9)) y):
  wpAnyH prog .any ops QQ S 7 (tL false false false false false false) a0 x:=by
 refine W5 (R:=Jd w0 P A w eo t D Q oD o1 o2 o3 X C S2 S3 YS L (.cells #[b0,b1,b2,b3,b4,b5,b6,b7] 34) (.cells #[c0,c1,c2',c3,c4,c5,c6,c7,c8,c9,c10,c11,c12,c13] 78) Dj a0 k) hr ?_ ?_ ?_ ?_ ?_ ?_ ?_ ?_ 6 false false false false false false rfl rfl a0 x ⟨0,0,0,undef,none,0,0,rfl,A2,c2,hx,nofun,nofun,nofun,nofun,nofun,nofun,nofun⟩
 ·rintro b5 bc b6 bp bb bf a y ⟨g5,g6,g14,vc,A9,n9,d9,-,A1,c1,h,-⟩;exact hS y h.ts.e h.q1 h.q3
 ·exact fun bc b6 bp bf a y K h hK=>Jd.s5 hi3 h194 h hK
 ·exact fun b5 b6 bf a y K h hK=>Jd.sc hi7 h196 h198 hP hD hC h hK
 ·exact fun b5 bc bf a y K h hK=>Jd.s6 hi9 h200 h hK
 ·exact fun b5 bf a y K h hK=>Jd.sp hI hZ0 hZ1 hZ2 hi10 hz hP h0 hlen h1c hL h hK
 ·exact fun bf a y K h hK=>Jd.sb hi11 h193 hz h hK
 ·exact fun b5 bc b6 bp bb a y K h hK=>Jd.sf hi12 h hK
 ·rintro a y ⟨g5,g6,g14,vc,A9,n9,d9,rfl,A1,c1,h,h5,-,hf,-,d2,-,hrw⟩;obtain⟨cs,hrw⟩:=hrw rfl;have hrw:Qc y (ROk (w.heap.size+3) Q A1 true g5 true g6 true true g14) (.slice A9 n9 d9) (YS++[L]) cs:=hrw;exact fin g5 g6 g14 vc A9 n9 d9 A1 c1 cs y h (h5 rfl) (hf rfl) (d2 rfl rfl) (hrw.keep Gt (fun b hb hlt=>⟨⟨hb.2.1,hb.2.2.2.2 rfl⟩,rfl,hlt⟩))
theorem Kr.at{w0 w x y:World}{P:Nat}{A A1:Option Addr}{eo:Obj}{t:Array Value}{D Q c1 g:Nat}{oD o1 o2 o3:Obj}{X:At}{C:List Value}{S3:Sc}(h:Kr w0 P A w eo t D Q oD o1 o2 o3 X C S3 A1 c1 x)(hP:P<w.heap.size)(h0:w0.heap.size≤w.heap.size)(hg:Q+3≤g)(hA:∀ a,A1=some a→a.block≠g)(f:Fr [g] x y):
  TSt w0 P A w eo t S3 A1 c1 y∧y.heap[D]?=some oD∧Au y (TOk (w.heap.size+3) A1) X C∧y.heap[Q]?=some o1∧y.heap[Q+1+1]?=some o3:=by
 have hlo:=h.lo;have hdq:=h.dq;have hD:=h.d;refine⟨⟨f.keep h.ts.e sO,f.keep h.ts.r sO,f.keep h.ts.t sO,h.ts.st.fresh f sO (fun a e=>by have:=hA a e;simpa using this) h0 (fun z hz=>by simp at hz;omega),h.ts.ap,Nat.le_trans h.ts.sz f.size⟩,f.keep hD sO,h.xa.keep (fun b hb hlt=>⟨hb.1,f.block b hlt (by have:=hb.2;simp;omega),Nl' hlt f.size⟩),f.keep h.q1 sO,f.keep h.q3 sO⟩
theorem row_blk{y:World}{ok:Nat→Prop}{g:Nat}{C:List Value}{T:TypeId}(hok:ok g)(h:y.heap[g]?=some (.cells C.toArray T (0,0)))(hl:C.length=8):En y ok (.slice (some ⟨g,0,none⟩) 1 1) 1 8 (fun _=>C):=by
 refine .inr ⟨g,0,1,rfl,hok,Aa h,Nr' _,fun i hi=>⟨hl,fun j u hu=>?_⟩⟩;obtain rfl:i=0:=by omega
 have:=Ab h (0+0 * 8+j);rw[this];simpa using hu
theorem try_end{w0 w y:World}{P:Nat}{A A1:Option Addr}{eo:Obj}{t:Array Value}{D Q c1 g5 g14:Nat}{oD o1 o2 o3:Obj}{X:At}{C:List Value}{S3:Sc}{YS:List (Bp×At)}{k V:Int}{A9:Option Addr}{n9 d9:Nat}{cs:Nat→List Value}
  (h:Kr w0 P A w eo t D Q oD o1 o2 o3 X C S3 A1 c1 y) (h5:Mb Q A1 g5 (.cells #[vI 1,vI k,vI V,vI 0,vE,vZ,vZ,vZ] 34) y) (hf:Mb Q A1 g14 Dj y) (hne:g5≠g14)
  (hr:Qc y (fun b=>TOk (w.heap.size+3) A1 b∧b≠g14) (.slice A9 n9 d9) (YS++[(.mk 1 0 0 [] [] [],.mk 18 k 0 0 [] [] [Pv k V] [])]) cs) (hP:P<w.heap.size) (h0:w0.heap.size≤w.heap.size):
  ∀ Z,Z=st8 y g14 (vI 16) (vI k) (vI 0) (vI 0) (vE) (vZ) (.slice (some ⟨g5,0,none⟩) 1 1) (.slice A9 n9 d9)→
  TSt w0 P A w eo t S3 A1 c1 Z∧Z.heap[D]?=some oD∧Z.heap[g14]?=some (.cells #[vI 16,vI k,vI 0,vI 0,vE,vZ,.slice (some ⟨g5,0,none⟩) 1 1,.slice A9 n9 d9] 34 (0,0))∧Au Z (TOk (w.heap.size+3) A1) X C ∧
   (Z.heap[Q]?=some o1∧Z.heap[Q+1+1]?=some o3)∧Au Z (TOk (w.heap.size+3) A1) (Y0 k V YS) [vI 16,vI k,vI 0,vI 0,vE,vZ,.slice (some ⟨g5,0,none⟩) 1 1,.slice A9 n9 d9]:=by
 rintro Z rfl;have f:=Aj y g14 (vI 16) (vI k) (vI 0) (vI 0) (vE) (vZ) (.slice (some ⟨g5,0,none⟩) 1 1) (.slice A9 n9 d9);have hG:=Aq (x:=y) hf.2.1 (vI 16) (vI k) (vI 0) (vI 0) (vE) (vZ) (.slice (some ⟨g5,0,none⟩) 1 1) (.slice A9 n9 d9)
 generalize st8 y g14 (vI 16) (vI k) (vI 0) (vI 0) (vE) (vZ) (.slice (some ⟨g5,0,none⟩) 1 1) (.slice A9 n9 d9)=Z at *
 obtain⟨a1,a2,a3,a4⟩:=h.at hP h0 hf.1 hf.2.2 f;have hlo:=h.lo;have hr':Qc Z (TOk (w.heap.size+3) A1) (.slice A9 n9 d9) (YS++[(.mk 1 0 0 [] [] [],.mk 18 k 0 0 [] [] [Pv k V] [])]) cs:=hr.keep Gt (fun b hb hlt=>⟨hb.1,f.block b hlt (by have:=hb.2;simpa using this),Nl' hlt f.size⟩);have h5':=f.keep h5.2.1 (by simpa using hne);refine⟨a1,a2,hG,a3,a4,?_⟩;unfold Y0
 exact Au.of_sl (s:=[]) (ls:=[]) (c5:=fun _=>[]) (.inl ⟨none,0,rfl,rfl⟩) (fun i x hi=>by simp at hi) (row_blk (C:=[vI 1,vI k,vI V,vI 0,vE,vZ,vZ,vZ]) ⟨by have:=h5.1;omega,h5.2.2⟩ h5' rfl) (fun i x hi=>by
   rcases i with _|i
   ·simp at hi;subst hi;exact Au.leaf 1 k V 0 []
   ·simp at hi) hr'.sl (fun i x hi=>hr'.el Gt i x hi)
theorem last_at{y:World}{Q:Nat}{k V:Int}(h:y.heap[Q+1]?=some (.cells #[vI 1,vI k,vI V,vI 0,vE,vZ,vZ,vZ] 34 (0,0))):
  J0 y (fun b=>b=Q+1) (.mk 1 0 0 [] [] [],.mk 18 k 0 0 [] [] [Pv k V] []) [vI 1,vI 0,vI 0,vE,vZ,vZ,vI 18,vI k,vI 0,vI 0,vE,vZ,.slice (some ⟨Q+1,0,none⟩) 1 1,vZ]:=by
 have hp:Cs y (fun b=>b=Q+1) (.mk 1 0 0 [] [] []) [vI 1,vI 0,vI 0,vE,vZ,vZ]:=.mk (s:=[]) (fun _=>[]) (fun _=>[]) (.inl ⟨none,0,rfl,rfl⟩) (fun i x hi=>by simp at hi) (.inl ⟨none,0,rfl,rfl⟩) (fun i x hi=>by simp at hi)
 have ht:Au y (fun b=>b=Q+1) (.mk 18 k 0 0 [] [] [Pv k V] []) [vI 18,vI k,vI 0,vI 0,vE,vZ,.slice (some ⟨Q+1,0,none⟩) 1 1,vZ] :=
  Au.of_sl (s:=[]) (ls:=[]) (c5:=fun _=>[]) (c7:=fun _=>[]) (.inl ⟨none,0,rfl,rfl⟩) (fun i x hi=>by simp at hi) (row_blk (C:=[vI 1,vI k,vI V,vI 0,vE,vZ,vZ,vZ]) rfl h rfl) (fun i x hi=>by
   rcases i with _|i
   ·simp at hi;subst hi;exact Au.leaf 1 k V 0 []
   ·simp at hi) (.inl ⟨none,0,rfl,rfl⟩) (fun i x hi=>by simp at hi)
 exact .mk hp ht rfl
theorem Ti{P:Program}{md:Region.Mode}{ops:Array Oper}{Q:Exit→Act→World→Prop}{S:World→Prop}{n:Nat}{l:Array Bool}(l':Array Bool){a:Act}{w:World}(h:l=l')(H:wpAnyH P md ops Q S n l' a w):wpAnyH P md ops Q S n l a w:=h ▸ H
theorem nn4(h:p:=by
 have kqq354:=@Hz _ @nn689;exact qq354):p:=h
theorem nn158(h:p:=by
 have Ta:TSt w0 P A w (.cells #[vI k,vI a,vS nm,vI n,vS s,.slice A5 ls.length c5,.slice (some ⟨g,o,none⟩) args.length c6,.slice A7 arms.length c7] 27) #[vI 17,vI a,vI S1.n,vI 0,vE,vZ,vZ,vZ] S2 A2 c2 ((x8.setCell ⟨w.heap.size+1+1,0,none⟩ (vI 17)).setCell ⟨w.heap.size+1+1,2,none⟩ (vI S1.n)):=(T2.set hP HLE.out 0 (vI 17)).set hP HLE.out 2 (vI S1.n);have pDa:=(TSt.rows (T2.set hP HLE.out 0 (vI 17)) 2 (vI S1.n)).keep ((TSt.rows T2 0 (vI 17)).keep pD2 (by simp only[List.mem_singleton];omega)) (by simp only[List.mem_singleton];omega);have kqq208:=@Hz _ @nn405;exact qq208):p:=h
theorem nn234(h:p:=by
 obtain⟨j0,j1,j2,j3,j4,j5,j6,j7⟩:=HC0.out.at hg T0.st.1.fr;simp only[Nat.zero_mul,Nat.add_zero] at j0 j1 j2 j3 j4 j5 j6 j7;have kqq321:=@Hz _ @nn586;exact qq321):p:=h
theorem nn305(h:p:=by
 have hX:tmE (.mk k a nm n s ls args arms) S=(.mk 17 a (Bf args (some [95]) S).2.1 0 [] [] ((Bf args (some [95]) S).1++[Y0 a (Bf args (some [95]) S).2.1 (Eb arms (Bf args (some [95]) S).2.2).1]) [],(Eb arms (Bf args (some [95]) S).2.2).2):=by
  subst hk0;rw[Pq]
 have kqq4:=@Hz _ @nn4;exact qq4):p:=h
theorem nn405(h:p:=by
 obtain⟨⟨i0,i1,i2,i3,i4,i5,i6,i7⟩,_⟩:=Ac T2.e;have hET:¬ w.heap.size=w.heap.size+1+1:=by omega
 have hTE:¬ w.heap.size+1+1=w.heap.size:=by omega
 have hL0:w.heap.size<x8.heap.size:=Aa T2.e;have hL:w.heap.size+1+1<x8.heap.size:=Aa T2.t;have hL':w.heap.size+1<x8.heap.size:=Aa T2.r;have hAQ:=T2.st.1.own_lt;have hDx:=Aa pD2;have hXq:Au x8 (LOk (w.heap.size+3) x8.heap.size A2) X [vI k1,vI a1,vI v1,vI n1,.string ⟨s1⟩,.slice B51 n51 e51,.slice B61 n61 e61,.slice B71 n71 e71]:=hX2.keep (fun b hb hlt=>⟨⟨hb,hlt⟩,rfl,hlt⟩);have hPx:=T2.st.1.lt;clear T2 hX2 hX1'' T1' hst2 pD pD2 hnD hAl fD cB hSB2;go_wp2_with fail;have hXa:Au ((x8.setCell ⟨w.heap.size+1+1,0,none⟩ (vI 17)).setCell ⟨w.heap.size+1+1,2,none⟩ (vI S1.n)) (LOk (w.heap.size+3) x8.heap.size A2) X [vI k1,vI a1,vI v1,vI n1,.string ⟨s1⟩,.slice B51 n51 e51,.slice B61 n61 e61,.slice B71 n71 e71]:=(hXq.keep (Sl (Mn (Nr' _) 0 (vI 17)))).keep (Sl (Mn (Nr' _) 2 (vI S1.n)));have hxs:((x8.setCell ⟨w.heap.size+1+1,0,none⟩ (vI 17)).setCell ⟨w.heap.size+1+1,2,none⟩ (vI S1.n)).heap.size=x8.heap.size:=by simp[World.setCell]
 generalize (x8.setCell ⟨w.heap.size+1+1,0,none⟩ (vI 17)).setCell ⟨w.heap.size+1+1,2,none⟩ (vI S1.n)=xa at *
 generalize hQ:x8.heap.size=Q at *
 have q1:=Ag xa (.cells #[vI 1,vI a,vI S1.n,vI 0,vE,vZ,vZ,vZ] 34);have q2:=Ag (xa.alloc (.cells #[vI 1,vI a,vI S1.n,vI 0,vE,vZ,vZ,vZ] 34)) (.cells #[vI 1,vI a,vI S1.n,vI 0,vE,vZ,vZ,vZ] 34);have q3:=Ag ((xa.alloc (.cells #[vI 1,vI a,vI S1.n,vI 0,vE,vZ,vZ,vZ] 34)).alloc (.cells #[vI 1,vI a,vI S1.n,vI 0,vE,vZ,vZ,vZ] 34)) (.cells #[vI 1,vI 0,vI 0,vE,vZ,vZ,vI 18,vI a,vI 0,vI 0,vE,vZ,.slice (some ⟨Q+1,0,none⟩) 1 1,vZ] 78);simp only[World.size_alloc,hxs] at q1 q2 q3;replace q1:=Ae (Ae q1 (.cells #[vI 1,vI a,vI S1.n,vI 0,vE,vZ,vZ,vZ] 34)) (.cells #[vI 1,vI 0,vI 0,vE,vZ,vZ,vI 18,vI a,vI 0,vI 0,vE,vZ,.slice (some ⟨Q+1,0,none⟩) 1 1,vZ] 78);replace q2:=Ae q2 (.cells #[vI 1,vI 0,vI 0,vE,vZ,vZ,vI 18,vI a,vI 0,vI 0,vE,vZ,.slice (some ⟨Q+1,0,none⟩) 1 1,vZ] 78);have fb:=(((Fr.refl [] xa).alloc (.cells #[vI 1,vI a,vI S1.n,vI 0,vE,vZ,vZ,vZ] 34)).alloc (.cells #[vI 1,vI a,vI S1.n,vI 0,vE,vZ,vZ,vZ] 34)).alloc (.cells #[vI 1,vI 0,vI 0,vE,vZ,vZ,vI 18,vI a,vI 0,vI 0,vE,vZ,.slice (some ⟨Q+1,0,none⟩) 1 1,vZ] 78);have Tb:=Ta.fr0 fb;have hXb:=hXa.keep (Sl (Oz fb));have pDb:=fb.keep pDa nE;have hzb:Q+3≤(((xa.alloc (.cells #[vI 1,vI a,vI S1.n,vI 0,vE,vZ,vZ,vZ] 34)).alloc (.cells #[vI 1,vI a,vI S1.n,vI 0,vE,vZ,vZ,vZ] 34)).alloc (.cells #[vI 1,vI 0,vI 0,vE,vZ,vZ,vI 18,vI a,vI 0,vI 0,vE,vZ,.slice (some ⟨Q+1,0,none⟩) 1 1,vZ] 78)).heap.size:=by simp only[World.size_alloc,hxs];omega
 generalize ((xa.alloc (.cells #[vI 1,vI a,vI S1.n,vI 0,vE,vZ,vZ,vZ] 34)).alloc (.cells #[vI 1,vI a,vI S1.n,vI 0,vE,vZ,vZ,vZ] 34)).alloc (.cells #[vI 1,vI 0,vI 0,vE,vZ,vZ,vI 18,vI a,vI 0,vI 0,vE,vZ,.slice (some ⟨Q+1,0,none⟩) 1 1,vZ] 78)=xb at *
 clear l0 l1 l2 l3 l4 l5 l6 l7 f0 f1 f2 f3 f4 f5 f6 f7 u0 u1 u2 u3 u4 u5 u6 u7 z0 z1 z2 z3 z4 z5 z6 z7 i0 i1 i2 i3 i4 i5 i6 i7 hL0 hL hL' Ta hXa pDa fb hxs;obtain⟨⟨l0,l1,l2,l3,l4,l5,l6,l7⟩,_⟩:=Ac q1;obtain⟨⟨i0,i1,i2,i3,i4,i5,i6,i7⟩,_⟩:=Ac Tb.e;obtain⟨d0,d1,d2,d3,d4,d5,d6,d7,d8,d9,d10,d11,d12,d13⟩:=cells14 q3
 have hxb:Kr w0 P A w (.cells #[vI k,vI a,vS nm,vI n,vS s,.slice A5 ls.length c5,.slice (some ⟨g,o,none⟩) args.length c6,.slice A7 arms.length c7] 27) #[vI 17,vI a,vI S1.n,vI 0,vE,vZ,vZ,vZ] D Q (.cells #[vI k1,vI a1,vI v1,vI n1,.string ⟨s1⟩,.slice B51 n51 e51,.slice B61 n61 e61,.slice B71 n71 e71] 34) (.cells #[vI 1,vI a,vI S1.n,vI 0,vE,vZ,vZ,vZ] 34) (.cells #[vI 1,vI a,vI S1.n,vI 0,vE,vZ,vZ,vZ] 34) (.cells #[vI 1,vI 0,vI 0,vE,vZ,vZ,vI 18,vI a,vI 0,vI 0,vE,vZ,.slice (some ⟨Q+1,0,none⟩) 1 1,vZ] 78) X [vI k1,vI a1,vI v1,vI n1,.string ⟨s1⟩,.slice B51 n51 e51,.slice B61 n61 e61,.slice B71 n71 e71] S2 A2 c2 xb:=⟨Tb,hXb,pDb,q1,q2,q3,fun a e => .inl ⟨hAQ a e,hAD a e⟩,oM,oM,hzb⟩
 have HXB:=Hz (hxb.fr0 (Fr.refl [] xb).drew);have hDw:w.heap.size≤D:=by omega
 have HLY:Hid (YS.length≤650000000000):=Hz (by rw[HLEN.out];exact b5);clear q1 q2 q3 Tb hXb pDb hAQ hAD hxb;refine wp_region_held_drew (S:=fun w'=>w'.cell? ⟨w.heap.size,1,none⟩=some (vI a)∧w'.cell? ⟨w.heap.size,7,none⟩=some (.slice A7 arms.length c7)∧w'.cell? ⟨Q,0,none⟩=some (vI 1)∧w'.cell? ⟨Q,1,none⟩=some (vI a)∧w'.cell? ⟨Q,2,none⟩=some (vI S1.n)∧w'.cell? ⟨Q,3,none⟩=some (vI 0)∧w'.cell? ⟨Q,4,none⟩=some (vE)∧w'.cell? ⟨Q,5,none⟩=some (vZ)∧w'.cell? ⟨Q,6,none⟩=some (vZ)∧w'.cell? ⟨Q,7,none⟩=some (vZ)∧w'.cell? ⟨Q+1+1,0,none⟩=some (vI 1)∧w'.cell? ⟨Q+1+1,1,none⟩=some (vI 0)∧w'.cell? ⟨Q+1+1,2,none⟩=some (vI 0)∧w'.cell? ⟨Q+1+1,3,none⟩=some (vE)∧w'.cell? ⟨Q+1+1,4,none⟩=some (vZ)∧w'.cell? ⟨Q+1+1,5,none⟩=some (vZ)∧w'.cell? ⟨Q+1+1,6,none⟩=some (vI 18)∧w'.cell? ⟨Q+1+1,7,none⟩=some (vI a)∧w'.cell? ⟨Q+1+1,8,none⟩=some (vI 0)∧w'.cell? ⟨Q+1+1,9,none⟩=some (vI 0)∧w'.cell? ⟨Q+1+1,10,none⟩=some (vE)∧w'.cell? ⟨Q+1+1,11,none⟩=some (vZ)∧w'.cell? ⟨Q+1+1,12,none⟩=some (.slice (some ⟨Q+1,0,none⟩) 1 1)∧w'.cell? ⟨Q+1+1,13,none⟩=some (vZ)) kR ?_ (fun hHeld=>?_)
 ·exact⟨i1,i7,l0,l1,l2,l3,l4,l5,l6,l7,d0,d1,d2,d3,d4,d5,d6,d7,d8,d9,d10,d11,d12,d13⟩
 refine tk1 0 (oi:={ dst:=some 192,op:=_,type:=_,pos:=_,after:=_,guard:=_ }) (v:=?_) rfl rF ?_ ?_
 rotate_left
 ·exact qq27
 try simp only[Act.put,sX]
 refine tk1 1 (oi:={ dst:=some 193,op:=_,type:=_,pos:=_,after:=_,guard:=_ }) (v:=?_) rfl rF ?_ ?_
 rotate_left
 ·exact qq27
 try simp only[Act.put,sX]
 refine tk1 2 (oi:={ dst:=some 194,op:=_,type:=_,pos:=_,after:=_,guard:=_ }) (v:=?_) rfl rF ?_ ?_
 rotate_left
 ·exact qq27
 try simp only[Act.put,sX]
 refine tk1 4 (oi:={ dst:=some 196,op:=_,type:=_,pos:=_,after:=_,guard:=_ }) (v:=?_) rfl rF ?_ ?_
 rotate_left
 ·exact qq27
 try simp only[Act.put,sX]
 refine tk1 5 (oi:={ dst:=some 197,op:=_,type:=_,pos:=_,after:=_,guard:=_ }) (v:=?_) rfl rF ?_ ?_
 rotate_left
 ·exact qq27
 try simp only[Act.put,sX]
 refine tk1 6 (oi:={ dst:=some 198,op:=_,type:=_,pos:=_,after:=_,guard:=_ }) (v:=?_) rfl rF ?_ ?_
 rotate_left
 ·exact qq27
 try simp only[Act.put,sX]
 refine tk1 8 (oi:={ dst:=some 200,op:=_,type:=_,pos:=_,after:=_,guard:=_ }) (v:=?_) rfl rF ?_ ?_
 rotate_left
 ·exact qq27
 try simp only[Act.put,sX]
 refine Ti (tL false false false false false false) kR ?_;refine try_region (k:=a) (L:=(.mk 1 0 0 [] [] [],.mk 18 a 0 0 [] [] [Pv a S1.n] [])) HXB.out (fun y y1 y2 y3=>?_) HI.out HZ0.out HZ1.out HZ2.out hP hDw HLE.out HLY.out (by simp[Value.oneCell']) (fun y hy=>last_at hy) (fun W A2 c2 hW=>(cC W A2 c2 hW).out) rF rF rF rF rF rF rF rF rF rF rF rF (by intro b5 bc b6 bp bb bf h;cases b5 <;> cases bc <;> cases b6 <;> cases bp <;> cases bb <;> first|(exact absurd h dC)| (cases bf <;> kernel_rfl)) ?_
 ·exact Y1 y1 y2 y3
 rintro g5 g6 g14 vc A9 n9 d9 A8 c8 cs y hxy h5 hf hne hr;have HE:=Hz (try_end hxy h5 hf hne hr hP HLE.out _ rfl);obtain⟨⟨y0,y1,y2,y3,y4,y5,y6,y7⟩,r0,r1,r2,r3,r4,r5,r6,r7⟩:=Ac hf.2.1;clear hxy h5 hne hr hHeld HXB hf;simp only[L6,pu,if_true,Act.put,sX];refine tkc 13 (oi:={ dst:=none,op:=_,type:=_,pos:=_,after:=_,guard:=_ }) rfl (fun K hK=>?_);go_simp;have hE:=HE.out;unfold st8 at hE
 generalize (((((((y.setCell ⟨g14,0,none⟩ (vI 16)).setCell ⟨g14,1,none⟩ (vI a)).setCell ⟨g14,2,none⟩ (vI 0)).setCell ⟨g14,3,none⟩ (vI 0)).setCell ⟨g14,4,none⟩ (vE)).setCell ⟨g14,5,none⟩ (vZ)).setCell ⟨g14,6,none⟩ (.slice (some ⟨g5,0,none⟩) 1 1)).setCell ⟨g14,7,none⟩ (.slice A9 n9 d9)=Z at *
 obtain⟨T9,P9,G9,hXx,hq,hXy⟩:=hE;refine hK.out _ _ ?_ (fun hHeld=>?_)
 ·exact Y1 T9.e hq.1 hq.2
 clear hK K HE hHeld hq y0 y1 y2 y3 y4 y5 y6 y7 r0 r1 r2 r3 r4 r5 r6 r7;refine wpAnyH_done kR ?_ _;have hXx':=hXx;obtain⟨⟨y0,y1,y2,y3,y4,y5,y6,y7⟩,_⟩:=Ac P9;obtain⟨⟨r0,r1,r2,r3,r4,r5,r6,r7⟩,_⟩:=Ac G9;obtain⟨⟨l0,l1,l2,l3,l4,l5,l6,l7⟩,f0,f1,f2,f3,f4,f5,f6,f7⟩:=Ac T9.t;obtain⟨⟨u0,u1,u2,u3,u4,u5,u6,u7⟩,z0,z1,z2,z3,z4,z5,z6,z7⟩:=Ac T9.r;have hL0:D<Z.heap.size:=Aa P9;have hL1:g14<Z.heap.size:=Aa G9;have hL:w.heap.size+1+1<Z.heap.size:=Aa T9.t;have hL':w.heap.size+1<Z.heap.size:=Aa T9.r;have hL2:¬ Z.heap.size=w.heap.size+1+1:=by omega
 have hL3:¬ Z.heap.size=w.heap.size+1:=by omega
 have hL4:¬ w.heap.size+1+1=Z.heap.size:=by omega
 have hL5:¬ w.heap.size+1=Z.heap.size:=by omega
 have kqq251:=@Hz _ @nn495;exact qq251):p:=h
theorem nn436(h:p:=by
 have hEs:Bf args (some [95]) S=([(tmE (.mk p0 pa0 pn0 pi0 ps0 pl0 pr0 pm0) S).1],(tmE (.mk p0 pa0 pn0 pi0 ps0 pl0 pr0 pm0) S).2.n,(tmE (.mk p0 pa0 pn0 pi0 ps0 pl0 pr0 pm0) S).2.bind [95]):=by rw[hargs];simp[Bf,Pi]
 rw[hEs];dsimp only;clear hEs hargs;have hsz:=HNS.out;have hgA:=Pt (.mk p0 pa0 pn0 pi0 ps0 pl0 pr0 pm0) S;have hSB2:SB (tmE (.mk p0 pa0 pn0 pi0 ps0 pl0 pr0 pm0) S).2 (1+B1 arms):=SB.step (HB.out.mono oM) hgA;have hSB3:SB ((tmE (.mk p0 pa0 pn0 pi0 ps0 pl0 pr0 pm0) S).2.bind [95]) (B1 arms):=SB.step hSB2 (Gr.bind _ _);have cT:=fun W hW=>Hz (IH.out p0 pa0 pn0 pi0 ps0 pl0 pr0 pm0 P50 P60 P70 q50 q60 q70 w0 W ok P S A c oM hmx0 hwx0 hx0 hW (HB.out.mono oM))
 have cC:=fun W A2 c2 hW=>Hz (Rk N IH.out arms A7 c7 cp ce w0 W ok P ((tmE (.mk p0 pa0 pn0 pi0 ps0 pl0 pr0 pm0) S).2.bind [95]) A2 c2 hsz.2.1 HMM.out HW8.out HW9.out H7.out E7.out E8.out hW hSB3 b5)
 have kqq334:=@Hz _ @nn627;exact qq334):p:=h
theorem nn495(h:p:=by
 have HT9:=Hz T9;have HXX:=Hz hXx;have HXY:=Hz hXy;clear T9 hXx hXx' hXy P9 G9;go_wp2_with fail
 have hZ:Fr [w.heap.size+1,w.heap.size+1+1] Z (((((((((Z.setCell ⟨w.heap.size+1+1,6,none⟩ (.slice (some ⟨Z.heap.size,0,none⟩) 2 2)).setCell ⟨w.heap.size+1,0,none⟩ (vI 17)).setCell ⟨w.heap.size+1,1,none⟩ (vI a)).setCell ⟨w.heap.size+1,2,none⟩ (vI S1.n)).setCell ⟨w.heap.size+1,3,none⟩ (vI 0)).setCell ⟨w.heap.size+1,4,none⟩ (vE)).setCell ⟨w.heap.size+1,5,none⟩ (vZ)).setCell ⟨w.heap.size+1,6,none⟩ (.slice (some ⟨Z.heap.size,0,none⟩) 2 2)).setCell ⟨w.heap.size+1,7,none⟩ (vZ)):=((((((((((Fr.refl [w.heap.size+1,w.heap.size+1+1] Z).setCell (p:=⟨w.heap.size+1+1,6,none⟩) (.inl sM) (.slice (some ⟨Z.heap.size,0,none⟩) 2 2)).setCell (p:=⟨w.heap.size+1,0,none⟩) (.inl sM) (vI 17)).setCell (p:=⟨w.heap.size+1,1,none⟩) (.inl sM) (vI a)).setCell (p:=⟨w.heap.size+1,2,none⟩) (.inl sM) (vI S1.n)).setCell (p:=⟨w.heap.size+1,3,none⟩) (.inl sM) (vI 0)).setCell (p:=⟨w.heap.size+1,4,none⟩) (.inl sM) (vE)).setCell (p:=⟨w.heap.size+1,5,none⟩) (.inl sM) (vZ)).setCell (p:=⟨w.heap.size+1,6,none⟩) (.inl sM) (.slice (some ⟨Z.heap.size,0,none⟩) 2 2)).setCell (p:=⟨w.heap.size+1,7,none⟩) (.inl sM) (vZ))
 have hsz:(((((((((Z.setCell ⟨w.heap.size+1+1,6,none⟩ (.slice (some ⟨Z.heap.size,0,none⟩) 2 2)).setCell ⟨w.heap.size+1,0,none⟩ (vI 17)).setCell ⟨w.heap.size+1,1,none⟩ (vI a)).setCell ⟨w.heap.size+1,2,none⟩ (vI S1.n)).setCell ⟨w.heap.size+1,3,none⟩ (vI 0)).setCell ⟨w.heap.size+1,4,none⟩ (vE)).setCell ⟨w.heap.size+1,5,none⟩ (vZ)).setCell ⟨w.heap.size+1,6,none⟩ (.slice (some ⟨Z.heap.size,0,none⟩) 2 2)).setCell ⟨w.heap.size+1,7,none⟩ (vZ)).heap.size=Z.heap.size:=by simp[World.setCell]
 have hG:=Aq (x:=Z.setCell ⟨w.heap.size+1+1,6,none⟩ (.slice (some ⟨Z.heap.size,0,none⟩) 2 2)) (((Fr.refl [w.heap.size+1+1] Z).setCell (p:=⟨w.heap.size+1+1,6,none⟩) (.inl sM) (.slice (some ⟨Z.heap.size,0,none⟩) 2 2)).keep HT9.out.r (by simp only[List.mem_singleton];omega)) (vI 17) (vI a) (vI S1.n) (vI 0) (vE) (vZ) (.slice (some ⟨Z.heap.size,0,none⟩) 2 2) (vZ);unfold st8 at hG
 generalize ((((((((Z.setCell ⟨w.heap.size+1+1,6,none⟩ (.slice (some ⟨Z.heap.size,0,none⟩) 2 2)).setCell ⟨w.heap.size+1,0,none⟩ (vI 17)).setCell ⟨w.heap.size+1,1,none⟩ (vI a)).setCell ⟨w.heap.size+1,2,none⟩ (vI S1.n)).setCell ⟨w.heap.size+1,3,none⟩ (vI 0)).setCell ⟨w.heap.size+1,4,none⟩ (vE)).setCell ⟨w.heap.size+1,5,none⟩ (vZ)).setCell ⟨w.heap.size+1,6,none⟩ (.slice (some ⟨Z.heap.size,0,none⟩) 2 2)).setCell ⟨w.heap.size+1,7,none⟩ (vZ)=Z9 at *
 have hX9:Au (Z.alloc (.cells #[vI k1,vI a1,vI v1,vI n1,.string ⟨s1⟩,.slice B51 n51 e51,.slice B61 n61 e61,.slice B71 n71 e71,vI 16,vI a,vI 0,vI 0,vE,vZ,.slice (some ⟨g5,0,none⟩) 1 1,.slice A9 n9 d9] 34)) (TOk (w.heap.size+3) _) _ [vI 17,vI a,vI S1.n,vI 0,vE,vZ,.slice (some ⟨Z.heap.size,0,none⟩) 2 2,vZ]:=Au.of_rows (c5:=fun _=>[]) (c7:=fun _=>[]) An.nil_ (Qt HXX.out HXY.out HT9.out.sz HT9.out.st.1.own_lt) An.nil_;have hfin:=TSt.fin (HT9.out.fr0 ((Fr.refl [] _).alloc (.cells #[vI k1,vI a1,vI v1,vI n1,.string ⟨s1⟩,.slice B51 n51 e51,.slice B61 n61 e61,.slice B71 n71 e71,vI 16,vI a,vI 0,vI 0,vE,vZ,.slice (some ⟨g5,0,none⟩) 1 1,.slice A9 n9 d9] 34))) hP HLE.out (hZ.both hsz (.cells #[vI k1,vI a1,vI v1,vI n1,.string ⟨s1⟩,.slice B51 n51 e51,.slice B61 n61 e61,.slice B71 n71 e71,vI 16,vI a,vI 0,vI 0,vE,vZ,.slice (some ⟨g5,0,none⟩) 1 1,.slice A9 n9 d9] 34)) hX9;obtain⟨⟨g0,g1,g2,g3,g4,g5,g6,g7⟩,_⟩:=Ac hG;have hRz:=Aa hG;refine bodyPost_ret (v:=.agg #[vI 17,vI a,vI S1.n,vI 0,vE,vZ,.slice (some ⟨Z.heap.size,0,none⟩) 2 2,vZ]) ?_ rfl hfin;exact qq329):p:=h
theorem nn586(h:p:=by
 have kqq53:=@Hz _ @nn158;exact qq53):p:=h
theorem nn612(h:p:=by
 have t16:(k==16)=false:=by simp;omega
 have t17:(k==17)=true:=by simp;omega
 have hal:args.length=1:=Jv (h:=⟨false,false,false,false,1,true⟩) (by rw[hk0];rfl) hfo;have hszE:1+Bk args+B1 arms≤szE (.mk k a nm n s ls args arms):=by rw[szE];omega
 have kqq230:=@Hz _ @nn436;exact qq230):p:=h
theorem nn627(h:p:=by
 have hlen:=Lh arms (S1.bind [95])
 generalize S1.bind [95]=S2 at *
 generalize (Eb arms S2).1=YS at *
 generalize (Eb arms S2).2=S3 at *
 have HLEN:=Hz hlen;clear hmx0 hwx0 hx0 hsz hgA hSB3 hszE HNS hsz0 hlen;obtain⟨i0',hi,hz0,hz1,hz2⟩:=info_parts W8;have HI:=Hz hi;have HZ0:=Hz hz0;have HZ1:=Hz hz1;have HZ2:=Hz hz2;clear hi hz0 hz1 hz2;have kqq81:=@Hz _ @nn234;exact qq81):p:=h
theorem nn689(h:p:=by
 have kqq326:=@Hz _ @nn612;exact qq326):p:=h
theorem term_17(N:Nat)(ih:TMC N)(k:Int)(hk0:k=17):Rb (N+1) k:=by
 have kqq116:=@Hz _ @nn305;exact qq116
theorem nn2(h:p:=by
 have kqq115:=@Hz _ @nn301;exact qq115):p:=h
theorem nn84(h:p:=by
 refine(cT x5 T0.st.1).out.mono ?_;rintro e x6 ⟨A9,c9,cs9,A1,c1,he,hR,hst⟩;rw[HLEN.out] at he hR;subst he;have R6:J2 x6 (TOk (w.heap.size+3) A1) (.slice A9 args.length c9) [X0,X1] cs9:=hR.keep D9 (G5 T0.sz (Fr.refl [] _));have T1:=T0.step hP hst;obtain⟨g,o,rfl,_,hgl,hgk,_,hc0⟩:=R6.sl.row (i:=0) sM;obtain⟨g',o',e',_,_,_,_,hc1⟩:=R6.sl.row (i:=1) sM;cases e';have hX0:=R6.el D9 0 X0 rfl;have hX1:=R6.el D9 1 X1 rfl;obtain⟨k1,a1,v1,n1,s1,B51,n51,e51,B61,n61,e61,B71,n71,e71,e1⟩:=hX0.told;obtain⟨k3,a3,v3,n3,s3,B53,n53,e53,B63,n63,e63,B73,n73,e73,e3⟩:=hX1.told;rw[e1] at hc0 hX0;rw[e3] at hc1 hX1;clear e1 e3;have r0:=hc0 0 _ rfl;have s0':=hc1 0 _ rfl;have r1:=hc0 1 _ rfl;have s1':=hc1 1 _ rfl;have r2:=hc0 2 _ rfl;have s2':=hc1 2 _ rfl;have r3:=hc0 3 _ rfl;have s3':=hc1 3 _ rfl;have r4:=hc0 4 _ rfl;have s4':=hc1 4 _ rfl;have r5:=hc0 5 _ rfl;have s5':=hc1 5 _ rfl;have r6:=hc0 6 _ rfl;have s6':=hc1 6 _ rfl;have r7:=hc0 7 _ rfl;have s7':=hc1 7 _ rfl;simp only[Nat.zero_mul,Nat.one_mul,Nat.add_zero,Nat.add_assoc,Nat.reduceAdd] at r0 s0' r1 s1' r2 s2' r3 s3' r4 s4' r5 s5' r6 s6' r7 s7';have HX0:=Hz hX0;have HX1:=Hz hX1;have hgT:¬ g=w.heap.size+1+1:=by have:=hgk.1;omega
 have hTg:¬ w.heap.size+1+1=g:=by omega
 have hgR:¬ g=w.heap.size+1:=by have:=hgk.1;omega
 have hRg:¬ w.heap.size+1=g:=by omega
 have kqq65:=@Hz _ @nn175;exact qq65):p:=h
theorem nn175(h:p:=by
 have hET:¬ w.heap.size=w.heap.size+1+1:=by omega
 have hTE:¬ w.heap.size+1+1=w.heap.size:=by omega
 have hL0:w.heap.size<x6.heap.size:=Aa T1.e;have hL:w.heap.size+1+1<x6.heap.size:=Aa T1.t;have hL':w.heap.size+1<x6.heap.size:=Aa T1.r;have hL2:¬ x6.heap.size=w.heap.size+1+1:=by omega
 have hL3:¬ x6.heap.size=w.heap.size+1:=by omega
 have hL4:¬ w.heap.size+1+1=x6.heap.size:=by omega
 have hL5:¬ w.heap.size+1=x6.heap.size:=by omega
 have HT:=Hz T1;clear T0 T1 hst cT hR R6 hc0 hc1 hX0 hX1 m0 m1 m2 m3 y0 y1 y2 y3 hgk;go_wp2_with fail
 go_region_held3 (fun w'=>w'.cell? ⟨w.heap.size,1,none⟩=some (vI a)∧w'.cell? ⟨g,o,none⟩=some (vI k1)∧w'.cell? ⟨g,o+1,none⟩=some (vI a1)∧w'.cell? ⟨g,o+2,none⟩=some (vI v1)∧w'.cell? ⟨g,o+3,none⟩=some (vI n1)∧w'.cell? ⟨g,o+4,none⟩=some (.string ⟨s1⟩)∧w'.cell? ⟨g,o+5,none⟩=some (.slice B51 n51 e51)∧w'.cell? ⟨g,o+6,none⟩=some (.slice B61 n61 e61)∧w'.cell? ⟨g,o+7,none⟩=some (.slice B71 n71 e71)∧w'.cell? ⟨g,o+8,none⟩=some (vI k3)∧w'.cell? ⟨g,o+9,none⟩=some (vI a3)∧w'.cell? ⟨g,o+10,none⟩=some (vI v3)∧w'.cell? ⟨g,o+11,none⟩=some (vI n3)∧w'.cell? ⟨g,o+12,none⟩=some (.string ⟨s3⟩)∧w'.cell? ⟨g,o+13,none⟩=some (.slice B53 n53 e53)∧w'.cell? ⟨g,o+14,none⟩=some (.slice B63 n63 e63)∧w'.cell? ⟨g,o+15,none⟩=some (.slice B73 n73 e73)) (first|go_keep) (fail)
 all_goals
  go_wp2_with fail
  have hZ:Fr [w.heap.size+1,w.heap.size+1+1] x6 ((((((((((x6.setCell ⟨w.heap.size+1+1,0,none⟩ (vI 11)).setCell ⟨w.heap.size+1+1,6,none⟩ (.slice (some ⟨x6.heap.size,0,none⟩) 3 3)).setCell ⟨w.heap.size+1,0,none⟩ (vI 11)).setCell ⟨w.heap.size+1,1,none⟩ (vI a)).setCell ⟨w.heap.size+1,2,none⟩ (vI 0)).setCell ⟨w.heap.size+1,3,none⟩ (vI 0)).setCell ⟨w.heap.size+1,4,none⟩ (vE)).setCell ⟨w.heap.size+1,5,none⟩ (vZ)).setCell ⟨w.heap.size+1,6,none⟩ (.slice (some ⟨x6.heap.size,0,none⟩) 3 3)).setCell ⟨w.heap.size+1,7,none⟩ (vZ)):=(((((((((((Fr.refl [w.heap.size+1,w.heap.size+1+1] x6).setCell (p:=⟨w.heap.size+1+1,0,none⟩) (.inl sM) (vI 11)).setCell (p:=⟨w.heap.size+1+1,6,none⟩) (.inl sM) (.slice (some ⟨x6.heap.size,0,none⟩) 3 3)).setCell (p:=⟨w.heap.size+1,0,none⟩) (.inl sM) (vI 11)).setCell (p:=⟨w.heap.size+1,1,none⟩) (.inl sM) (vI a)).setCell (p:=⟨w.heap.size+1,2,none⟩) (.inl sM) (vI 0)).setCell (p:=⟨w.heap.size+1,3,none⟩) (.inl sM) (vI 0)).setCell (p:=⟨w.heap.size+1,4,none⟩) (.inl sM) (vE)).setCell (p:=⟨w.heap.size+1,5,none⟩) (.inl sM) (vZ)).setCell (p:=⟨w.heap.size+1,6,none⟩) (.inl sM) (.slice (some ⟨x6.heap.size,0,none⟩) 3 3)).setCell (p:=⟨w.heap.size+1,7,none⟩) (.inl sM) (vZ))
  have hsz:((((((((((x6.setCell ⟨w.heap.size+1+1,0,none⟩ (vI 11)).setCell ⟨w.heap.size+1+1,6,none⟩ (.slice (some ⟨x6.heap.size,0,none⟩) 3 3)).setCell ⟨w.heap.size+1,0,none⟩ (vI 11)).setCell ⟨w.heap.size+1,1,none⟩ (vI a)).setCell ⟨w.heap.size+1,2,none⟩ (vI 0)).setCell ⟨w.heap.size+1,3,none⟩ (vI 0)).setCell ⟨w.heap.size+1,4,none⟩ (vE)).setCell ⟨w.heap.size+1,5,none⟩ (vZ)).setCell ⟨w.heap.size+1,6,none⟩ (.slice (some ⟨x6.heap.size,0,none⟩) 3 3)).setCell ⟨w.heap.size+1,7,none⟩ (vZ)).heap.size=x6.heap.size:=by simp[World.setCell]
  have hG:=Aq (x:=(x6.setCell ⟨w.heap.size+1+1,0,none⟩ (vI 11)).setCell ⟨w.heap.size+1+1,6,none⟩ (.slice (some ⟨x6.heap.size,0,none⟩) 3 3)) ((((Fr.refl [w.heap.size+1+1] x6).setCell (p:=⟨w.heap.size+1+1,0,none⟩) (.inl sM) (vI 11)).setCell (p:=⟨w.heap.size+1+1,6,none⟩) (.inl sM) (.slice (some ⟨x6.heap.size,0,none⟩) 3 3)).keep HT.out.r (by simp only[List.mem_singleton];omega)) (vI 11) (vI a) (vI 0) (vI 0) (vE) (vZ) (.slice (some ⟨x6.heap.size,0,none⟩) 3 3) (vZ);unfold st8 at hG
  generalize (((((((((x6.setCell ⟨w.heap.size+1+1,0,none⟩ (vI 11)).setCell ⟨w.heap.size+1+1,6,none⟩ (.slice (some ⟨x6.heap.size,0,none⟩) 3 3)).setCell ⟨w.heap.size+1,0,none⟩ (vI 11)).setCell ⟨w.heap.size+1,1,none⟩ (vI a)).setCell ⟨w.heap.size+1,2,none⟩ (vI 0)).setCell ⟨w.heap.size+1,3,none⟩ (vI 0)).setCell ⟨w.heap.size+1,4,none⟩ (vE)).setCell ⟨w.heap.size+1,5,none⟩ (vZ)).setCell ⟨w.heap.size+1,6,none⟩ (.slice (some ⟨x6.heap.size,0,none⟩) 3 3)).setCell ⟨w.heap.size+1,7,none⟩ (vZ)=Z at *
  have hX9:Au (x6.alloc (.cells #[vI k1,vI a1,vI v1,vI n1,.string ⟨s1⟩,.slice B51 n51 e51,.slice B61 n61 e61,.slice B71 n71 e71,vI 4,vI a,vI 0,vI 1,vE,vZ,vZ,vZ,vI k3,vI a3,vI v3,vI n3,.string ⟨s3⟩,.slice B53 n53 e53,.slice B63 n63 e63,.slice B73 n73 e73] 34)) (TOk (w.heap.size+3) _) _ [vI 11,vI a,vI 0,vI 0,vE,vZ,.slice (some ⟨x6.heap.size,0,none⟩) 3 3,vZ]:=Au.of_rows (c5:=fun _=>[]) (c7:=fun _=>[]) An.nil_ (row_three HX0.out (Au.leaf 4 a 0 1 []) HX1.out HT.out.sz HT.out.st.1.own_lt) An.nil_;have hfin:=TSt.fin (HT.out.fr0 ((Fr.refl [] _).alloc (.cells #[vI k1,vI a1,vI v1,vI n1,.string ⟨s1⟩,.slice B51 n51 e51,.slice B61 n61 e61,.slice B71 n71 e71,vI 4,vI a,vI 0,vI 1,vE,vZ,vZ,vZ,vI k3,vI a3,vI v3,vI n3,.string ⟨s3⟩,.slice B53 n53 e53,.slice B63 n63 e63,.slice B73 n73 e73] 34))) hP HLE.out (hZ.both hsz (.cells #[vI k1,vI a1,vI v1,vI n1,.string ⟨s1⟩,.slice B51 n51 e51,.slice B61 n61 e61,.slice B71 n71 e71,vI 4,vI a,vI 0,vI 1,vE,vZ,vZ,vZ,vI k3,vI a3,vI v3,vI n3,.string ⟨s3⟩,.slice B53 n53 e53,.slice B63 n63 e63,.slice B73 n73 e73] 34)).drew hX9;obtain⟨⟨g0,g1,g2,g3,g4,g5,g6,g7⟩,_⟩:=Ac hG;have hRz:=Aa hG;refine bodyPost_ret (v:=.agg #[vI 11,vI a,vI 0,vI 0,vE,vZ,.slice (some ⟨x6.heap.size,0,none⟩) 3 3,vZ]) ?_ rfl hfin;exact qq329):p:=h
theorem nn301(h:p:=by
 have t10:(k==10)=false:=by simp;omega
 have t21:(k==21)=false:=by simp;omega
 have t22:(k==22)=true:=by simp;omega
 have t12:(k==12)=false:=by simp;omega
 have t16:(k==16)=false:=by simp;omega
 have t17:(k==17)=false:=by simp;omega
 have hal:args.length=2:=Jv (h:=⟨false,false,false,false,2,false⟩) (by rw[hk0];rfl) hfo;have kqq239:=@Hz _ @nn460;exact qq239):p:=h
theorem nn303(h:p:=by
 have hX:tmE (.mk k a nm n s ls args arms) S=(.mk 11 a 0 0 [] [] (orT a (Bf args none S).1) [],(Bf args none S).2.2):=by
  subst hk0;rw[Ps]
 have kqq4:=@Hz _ @nn2;exact qq4):p:=h
theorem nn460(h:p:=by
 have kqq341:=@Hz _ @nn651;exact qq341):p:=h
theorem nn651(h:p:=by
 have hlen:=Hv args none S;have hlen2:=hlen.trans hal
 generalize (Bf args none S).1=XS at *
 generalize (Bf args none S).2.2=S2 at *
 obtain⟨X0,X1,rfl⟩:=Jl hlen2;have HLEN:=Hz hlen;have hn0:(0:Int)<(args.length:Int):=by omega
 have hn1:(1:Int)<(args.length:Int):=by omega
 have hm0:0<args.length:=by omega
 have hm1:1<args.length:=by omega
 clear hsz hlen hal hlen2;have kqq24:=@Hz _ @nn84;exact qq24):p:=h
theorem term_22(N:Nat)(ih:TMC N)(k:Int)(hk0:k=22):Rb (N+1) k:=by
 have kqq116:=@Hz _ @nn303;exact qq116
end
end Go.Proofs.YtlafbbnikgcdlaaGreatDoor
