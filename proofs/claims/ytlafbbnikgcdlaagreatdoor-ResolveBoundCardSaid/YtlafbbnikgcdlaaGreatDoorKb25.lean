/- A part of the proof: Ny, Nz, Oc, Oh. -/
import Derived.Test.YtlafbbnikgcdlaaGreatDoorKb20
import Derived.Test.YtlafbbnikgcdlaaGreatDoorKb22
import Derived.Test.YtlafbbnikgcdlaaGreatDoorKb23
import Derived.Test.YtlafbbnikgcdlaaGreatDoorKb24
namespace Go.Proofs.YtlafbbnikgcdlaaGreatDoor
open Go.RowKit
open _root_.Go.Proofs.Tryz
set_option linter.all false
set_option maxHeartbeats 16000000
set_option maxRecDepth 100000
variable{p:Prop}
open List renaming length_cons→Lc',length_nil→Ln'
open Nat renaming lt_of_lt_of_le→Nl',le_refl→Nr'
theorem Gf:∀ N,TMC N
 | 0=>by intro _ _ _ _ _ _ _ _ _ _ _ _ _ _ _ _ _ _ _ _ _ h;exact absurd h (Nat.not_lt_zero _)
 | N+1=>by
  intro k;rcases Ho k with hk|hk|(hk|hk)| hk|hk|hk|hk|hk|hk|hk
  ·exact term_1 N (Gf N) k hk
  ·exact term_7 N (Gf N) k hk
  ·exact term_9 N (Gf N) k hk
  ·exact term_20 N (Gf N) k hk
  ·exact term_10 N (Gf N) k hk
  ·exact term_12 N (Gf N) k hk
  ·exact term_16 N (Gf N) k hk
  ·exact term_17 N (Gf N) k hk
  ·exact term_21 N (Gf N) k hk
  ·exact term_22 N (Gf N) k hk
  ·exact term_else N (Gf N) k hk
section
attribute [local go_sem ↓] Go.wp_at_zero Go.wp_at_succ
def RsRes(w:World)(x:Ad)(e:Ending)(w':World):Prop :=
 ∃ k a v n s A5 n5 c5 A6 n6 c6 A7 n7 c7,e = .returned (.tuple #[.agg #[vI k,vI a,vI v,vI n,.string ⟨s⟩,.slice A5 n5 c5,.slice A6 n6 c6,.slice A7 n7 c7],vI (Ql x).2.1,vI (Ql x).2.2])∧
  Au w' (fun b=>w.heap.size≤b) (Ql x).1 [vI k,vI a,vI v,vI n,.string ⟨s⟩,.slice A5 n5 c5,.slice A6 n6 c6,.slice A7 n7 c7]∧Fr [] w w'
theorem Wb(k a:Int)(nm:LB)(n:Int)(s:LB)(ls:List LB)(args:List Ad)(arms:List (Al×Ad))(A5 A6 A7:Option Addr)(c5 c6 c7:Nat)(w:World)(hV:E1 w)(hx:Ak w (fun b=>b<w.heap.size) (.mk k a nm n s ls args arms) [vI k,vI a,vS nm,vI n,vS s,.slice A5 ls.length c5,.slice A6 args.length c6,.slice A7 arms.length c7])
  (hsz:szE (.mk k a nm n s ls args arms)≤1099511627775) (hs:SwE (.mk k a nm n s ls args arms)) (hw:WlE (.mk k a nm n s ls args arms)) (hm:Bh (.mk k a nm n s ls args arms)=true) (hf:(O0 (.mk k a nm n s ls args arms)).2=0∨(O0 (.mk k a nm n s ls args arms)).2=4):
  Calls prog 9 #[.agg #[vI k,vI a,vS nm,vI n,vS s,.slice A5 ls.length c5,.slice A6 args.length c6,.slice A7 arms.length c7]] w (RsRes w (.mk k a nm n s ls args arms)):=by
 have cS:=fun W hV hx=>Hz (Show_any k a nm n s ls args arms A5 A6 A7 c5 c6 c7 W hV hx hsz hs)
 have cT:=fun w0 W P A c hx hW=>Hz (Gf (szE (.mk k a nm n s ls args arms)+1) k a nm n s ls args arms A5 A6 A7 c5 c6 c7 w0 W (fun b=>b<w0.heap.size) P .zero A c (Nat.lt_succ_self _) hm hw hx hW ⟨dC,by show(0:Int)+_≤_;omega,by show 0+_≤_;omega⟩)
 have kE:∀ {w'},Fr [] w w'→Ak w' (fun b=>b<w'.heap.size) (.mk k a nm n s ls args arms) [vI k,vI a,vS nm,vI n,vS s,.slice A5 ls.length c5,.slice A6 args.length c6,.slice A7 arms.length c7]:=fun f=>hx.keep (fun b hb hlt=>⟨Nl' hb f.size,f.block b hlt (fun x=>by cases x),Nl' hlt f.size⟩)
 have HR0:Hid (Ql (.mk k a nm n s ls args arms)=if (tmE (.mk k a nm n s ls args arms) .zero).2.e=0 then ((tmE (.mk k a nm n s ls args arms) .zero).1,0,0)else (.zero,(tmE (.mk k a nm n s ls args arms) .zero).2.e,(tmE (.mk k a nm n s ls args arms) .zero).2.at_)):=Hz rfl;have HV:=Hz hV;have q0:=Ae (Ag w (.cells #[vI k,vI a,vS nm,vI n,vS s,.slice A5 ls.length c5,.slice A6 args.length c6,.slice A7 arms.length c7] 27)) Dj;have q1:=Ag (w.alloc (.cells #[vI k,vI a,vS nm,vI n,vS s,.slice A5 ls.length c5,.slice A6 args.length c6,.slice A7 arms.length c7] 27)) Dj;rw[World.size_alloc] at q1;have f0:=((Fr.refl [] w).alloc (.cells #[vI k,vI a,vS nm,vI n,vS s,.slice A5 ls.length c5,.slice A6 args.length c6,.slice A7 arms.length c7] 27)).alloc Dj;unfold RsRes
 generalize Ql (.mk k a nm n s ls args arms)=R at *
 generalize (tmE (.mk k a nm n s ls args arms) .zero).1=T at *
 generalize (tmE (.mk k a nm n s ls args arms) .zero).2=S2 at *
 generalize O0 (.mk k a nm n s ls args arms)=SR at *
 obtain⟨st,sf⟩:=SR;clear hx hsz hs hw hm hV;dsimp only at hf
 have hf2:((sf != 0)=false∧sf=0)∨((sf != 0)=true∧(sf != 4)=false∧sf=4):=by
  rcases hf with h|h
  ·exact .inl ⟨by simp[h],h⟩
  ·exact .inr ⟨by simp[h],by simp[h],h⟩
 clear hf;go_enter func9,ntmps9;go_wp2_with fail
 generalize (w.alloc (.cells #[vI k,vI a,vS nm,vI n,vS s,.slice A5 ls.length c5,.slice A6 args.length c6,.slice A7 arms.length c7] 27)).alloc Dj=x at *
 refine(cS x (HV.out.fr f0) (kE f0)).out.mono ?_;rintro e w2 ⟨rfl,f2⟩;have F2:=f0.trans f2;replace q0:=f2.keep q0 nE;replace q1:=f2.keep q1 nE;obtain⟨⟨j0,j1,j2,j3,j4,j5,j6,j7⟩,_⟩:=Ac q0;have f3:=(Fr.refl [] w2).alloc (.cells #[vZ,vI 0,vI 0,vI 0] Rc);have p3:=Ag w2 (.cells #[vZ,vI 0,vI 0,vI 0] Rc)
 have hS0:Dg w2 w2.heap.size .zero none 0 (w2.alloc (.cells #[vZ,vI 0,vI 0,vI 0] Rc)):=⟨p3,⟨rfl,.inl ⟨rfl,rfl⟩⟩,Nr' _,(fun a e=>by cases e),f3⟩
 have hw2:w.heap.size+2≤w2.heap.size:=by have:=Aa q1;omega
 replace q0:=f3.keep q0 nE;replace q1:=f3.keep q1 nE;obtain⟨⟨i0,i1,i2,i3,i4,i5,i6,i7⟩,_⟩:=Ac q0;clear cS f0 f2;have kX:=kE F2;clear kE
 rcases hf2 with⟨hb0,hsf⟩| ⟨hb0,hb4,hsf⟩
 all_goals
  clear hsf;go_wp2_with fail;refine(cT w2 (w2.alloc (.cells #[vZ,vI 0,vI 0,vI 0] Rc)) w2.heap.size none 0 kX hS0).out.mono ?_;rintro e w4 ⟨k1,a1,v1,n1,s1,B5,n5,e5,B6,n6,e6,B7,n7,e7,A2,c2,rfl,hX1,hst⟩
  have hn:∀ b,b<w2.heap.size→b ∉ scL w2.heap.size none:=fun b hb hx=>by
   rcases Ay.1 hx with e|⟨a,e,_⟩
   ·omega
   ·cases e
  have HQ1:=Hz (hst.2.1.keep q1 (hn _ oM))
  have HF4:Hid (Fr [] w w4):=Hz ((F2.trans f3).step hst.2.1 (fun b hb=>by
   rcases Ay.1 hb with rfl|⟨a,e,_⟩
   ·right;omega
   ·cases e))
  obtain⟨r0,r1,r2,r3,t0,t1,t2,t3⟩:=hst.1.cells;obtain⟨⟨u0,u1,u2,u3,u4,u5,u6,u7⟩,z0,z1,z2,z3,z4,z5,z6,z7⟩:=Ac HQ1.out;have hl1:w.heap.size+1<w4.heap.size:=Aa HQ1.out;have hl2:w2.heap.size<w4.heap.size:=hst.1.lt;have hl3:¬ w4.heap.size=w.heap.size+1:=by omega
  have hl4:¬ w.heap.size+1=w4.heap.size:=by omega
  have hl5:¬ w4.heap.size=w2.heap.size:=by omega
  have hl6:¬ w2.heap.size=w4.heap.size:=by omega
  have hl7:¬ w2.heap.size=w.heap.size+1:=by omega
  have hl8:¬ w.heap.size+1=w2.heap.size:=by omega
  have hsz4:=hst.2.1.size;have HX4:Hid (Au w4 (fun b=>w.heap.size+2≤b) T [vI k1,vI a1,vI v1,vI n1,.string ⟨s1⟩,.slice B5 n5 e5,.slice B6 n6 e6,.slice B7 n7 e7]):=Hz (hX1.keep (fun b hb hlt=>⟨by have:=hb.1;have:=f3.size;omega,rfl,hlt⟩));clear hX1 hst cT kX hS0 q0 q1 i0 i1 i2 i3 i4 i5 i6 i7 j0 j1 j2 j3 j4 j5 j6 j7 F2 f3 p3 hn hw2 hsz4;by_cases he:S2.e=0
  ·have hb:(S2.e != 0)=false:=by simp[he]
   have hRR:R=(T,0,0):=by rw[HR0.out,if_pos he]
   clear he HR0;go_wp2_with fail;have hG:=Aq (x:=w4) HQ1.out (vI k1) (vI a1) (vI v1) (vI n1) (.string ⟨s1⟩) (.slice B5 n5 e5) (.slice B6 n6 e6) (.slice B7 n7 e7);have hZ:=Aj w4 (w.heap.size+1) (vI k1) (vI a1) (vI v1) (vI n1) (.string ⟨s1⟩) (.slice B5 n5 e5) (.slice B6 n6 e6) (.slice B7 n7 e7);have hsz:=E0 w4 (w.heap.size+1) (vI k1) (vI a1) (vI v1) (vI n1) (.string ⟨s1⟩) (.slice B5 n5 e5) (.slice B6 n6 e6) (.slice B7 n7 e7);unfold st8 at hG hZ hsz
   generalize (((((((w4.setCell ⟨w.heap.size+1,0,none⟩ (vI k1)).setCell ⟨w.heap.size+1,1,none⟩ (vI a1)).setCell ⟨w.heap.size+1,2,none⟩ (vI v1)).setCell ⟨w.heap.size+1,3,none⟩ (vI n1)).setCell ⟨w.heap.size+1,4,none⟩ (.string ⟨s1⟩)).setCell ⟨w.heap.size+1,5,none⟩ (.slice B5 n5 e5)).setCell ⟨w.heap.size+1,6,none⟩ (.slice B6 n6 e6)).setCell ⟨w.heap.size+1,7,none⟩ (.slice B7 n7 e7)=Z at *
   obtain⟨⟨g0,g1,g2,g3,g4,g5,g6,g7⟩,_⟩:=Ac hG;have hRz:=Aa hG
   have hY:=(hZ.both hsz (.cells #[vI k1,vI a1,vI v1,vI n1,.string ⟨s1⟩,.slice B5 n5 e5,.slice B6 n6 e6,.slice B7 n7 e7] 34))
   have hF:=(HF4.out.alloc (.cells #[vI k1,vI a1,vI v1,vI n1,.string ⟨s1⟩,.slice B5 n5 e5,.slice B6 n6 e6,.slice B7 n7 e7] 34)).step hY (fun x hx => .inr (by simp at hx;omega));refine bodyPost_ret (v:=.tuple #[.agg #[vI k1,vI a1,vI v1,vI n1,.string ⟨s1⟩,.slice B5 n5 e5,.slice B6 n6 e6,.slice B7 n7 e7],vI 0,vI 0]) ?_ rfl ?_
   ·simp[results,Tryz.f9,go_sem,g0,g1,g2,g3,g4,g5,g6,g7,hRz]
   ·rw[hRR];exact⟨_,_,_,_,_,_,_,_,_,_,_,_,_,_,rfl,(HX4.out.keep (ok':=fun b=>w.heap.size≤b) (fun b hb hlt=>⟨oM,(hZ.both hsz (.cells #[vI k1,vI a1,vI v1,vI n1,.string ⟨s1⟩,.slice B5 n5 e5,.slice B6 n6 e6,.slice B7 n7 e7] 34)).block b (by rw[World.size_alloc];omega) sO |>.trans (Below.heap_alloc _ _ _ hlt),by have:=hZ.size;rw[World.size_alloc];omega⟩)),hF⟩
  ·have hb:(S2.e != 0)=true:=by simp[he]
   have hRR:R=(.zero,S2.e,S2.at_):=by rw[HR0.out,if_neg he]
   clear he HR0;go_wp2_with fail
   go_region_held3 (fun w'=>w'.cell? ⟨w2.heap.size,2,none⟩=some (vI S2.e)∧w'.cell? ⟨w2.heap.size,3,none⟩=some (vI S2.at_)) (first|go_keep) (fail)
   all_goals
    go_wp2_with fail;have hG:=Aq (x:=w4) HQ1.out (vI 0) (vI 0) (vI 0) (vI 0) (vE) (vZ) (vZ) (vZ);have hZ:=Aj w4 (w.heap.size+1) (vI 0) (vI 0) (vI 0) (vI 0) (vE) (vZ) (vZ) (vZ);have hsz:=E0 w4 (w.heap.size+1) (vI 0) (vI 0) (vI 0) (vI 0) (vE) (vZ) (vZ) (vZ);unfold st8 at hG hZ hsz
    generalize (((((((w4.setCell ⟨w.heap.size+1,0,none⟩ (vI 0)).setCell ⟨w.heap.size+1,1,none⟩ (vI 0)).setCell ⟨w.heap.size+1,2,none⟩ (vI 0)).setCell ⟨w.heap.size+1,3,none⟩ (vI 0)).setCell ⟨w.heap.size+1,4,none⟩ (vE)).setCell ⟨w.heap.size+1,5,none⟩ (vZ)).setCell ⟨w.heap.size+1,6,none⟩ (vZ)).setCell ⟨w.heap.size+1,7,none⟩ (vZ)=Z at *
    obtain⟨⟨g0,g1,g2,g3,g4,g5,g6,g7⟩,_⟩:=Ac hG;have hRz:=Aa hG;have hY:=(hZ.both hsz (.cells #[vI k1,vI a1,vI v1,vI n1,.string ⟨s1⟩,.slice B5 n5 e5,.slice B6 n6 e6,.slice B7 n7 e7] 34)).drew;have hF:=(HF4.out.alloc (.cells #[vI k1,vI a1,vI v1,vI n1,.string ⟨s1⟩,.slice B5 n5 e5,.slice B6 n6 e6,.slice B7 n7 e7] 34)).step hY (fun x hx => .inr (by simp at hx;omega));refine bodyPost_ret (v:=.tuple #[.agg #[vI 0,vI 0,vI 0,vI 0,vE,vZ,vZ,vZ],vI S2.e,vI S2.at_]) ?_ rfl ?_
    ·simp[results,Tryz.f9,go_sem,g0,g1,g2,g3,g4,g5,g6,g7,hRz]
    ·rw[hRR];exact⟨_,_,_,_,_,_,_,_,_,_,_,_,_,_,rfl,Au.leaf 0 0 0 0 [],hF⟩
section
attribute [local instance] KdB.no
theorem Nw{src:LB}{p:Int}(k a:Int)(nm:LB)(n:Int)(s:LB)(ls:List LB)(args:List Ad)(arms:List (Al×Ad))(A5 A6 A7:Option Addr)(c5 c6 c7:Nat)(hp:PR src (.mk k a nm n s ls args arms) 0 p)(w:World)(hV:E1 w)(hx:Ak w (fun b=>b<w.heap.size) (.mk k a nm n s ls args arms) [vI k,vI a,vS nm,vI n,vS s,.slice A5 ls.length c5,.slice A6 args.length c6,.slice A7 arms.length c7]):
  Calls prog 9 #[.agg #[vI k,vI a,vS nm,vI n,vS s,.slice A5 ls.length c5,.slice A6 args.length c6,.slice A7 arms.length c7]] w (RsRes w (.mk k a nm n s ls args arms)):=by
 obtain⟨h1,h2,h3⟩:=pr_may hp;refine Wb k a nm n s ls args arms A5 A6 A7 c5 c6 c7 w hV hx oM (pr_sw hp) (wl_of h1 h2 (pr_sw hp)) h1 ?_;rw[showR_of h1 h2 h3];split
 ·exact .inr rfl
 ·exact .inl rfl
theorem Za(w:World)(hE:E1 w):
  Calls prog 7 #[] w fun e w'=>e = .returned (.bool true)∧Fr [] w w':=by
 have p1:=fun w hE=>Hz (Nv ⟨#[102,117,110,32,120,32,45,62,32,102,117,110,32,120,32,45,62,32,120]⟩ dC w hE)
 have p2:=fun w hE=>Hz (Nv ⟨#[49,59,32,122]⟩ dC w hE)
 have HE:=Hz hE;clear hE;go_enter func7,ntmps7;go_wp2_with fail;refine(p1 _ HE.out).out.mono ?_;rintro e w1 ⟨k,a,nm,n,s',ls,args,arms,A5,c5,A6,c6,A7,c7,er,at_,rfl,hx,hpr,f1⟩;obtain⟨hX,rfl,rfl⟩:=PR.det awRPR hpr;have c1:=fun w hV hx=>Hz (Nw k a nm n s' ls args arms A5 A6 A7 c5 c6 c7 hpr w hV hx)
 have hR1:Hid (Ql (.mk k a nm n s' ls args arms)=(awRT,0,0)):=Hz (by rw[hX];exact awR_res);clear hX hpr p1;have fb:=(Fr.refl [] w1).alloc (.cells #[vI k,vI a,vS nm,vI n,vS s',.slice A5 ls.length c5,.slice A6 args.length c6,.slice A7 arms.length c7] 27);have HX:=Hz (hx.fr fb);have F1:=f1.trans fb;clear hx f1 fb;go_wp2_with fail
 generalize w1.alloc (.cells #[vI k,vI a,vS nm,vI n,vS s',.slice A5 ls.length c5,.slice A6 args.length c6,.slice A7 arms.length c7] 27)=y1 at *
 generalize w1.heap.size=T1 at *
 refine(c1 _ (HE.out.fr F1) HX.out).out.mono ?_;rintro e w2 ⟨k1,a1,v1,n1,s1,B5,n5,d5,B6,n6,d6,B7,n7,d7,rfl,ht,f2⟩;rw[hR1.out] at ht ⊢;clear c1 HX hR1;have ht0:=ht.keep (w':=w2) (ok':=fun b=>b<w2.heap.size) (fun b _ hb=>⟨hb,rfl,hb⟩);unfold awRT at ht
 cases ht with
 | mk d5' d6' cp ce h5 e5 h6 e6 h7 e7 e8 =>
 have l5:=h5.len;have l6:=h6.len;have l7:=h7.len;obtain⟨g,o,rfl,hg,hc⟩:=h6.elem (Fr.refl [] w2) (i:=0) dC;have e0:=e6 0 _ rfl
 generalize d6' 0=C at *
 have x3:w2.cell? ⟨g,o+2,none⟩=some (vI 1):=by
  cases e0;have:=hc 2 _ rfl;simpa using this
 clear h5 e5 h6 e6 h7 e7 e8 e0 hc;simp only[Ln',Lc'] at l5 l6 l7;subst l5 l6 l7;have F2:=F1.trans f2;have fb:=(Fr.refl [] w2).alloc (.cells #[vI 7,vI 0,vI 0,vI 0,vE,.slice B5 0 d5,.slice (some ⟨g,o,none⟩) 1 d6,.slice B7 0 d7] 34);have q:=Ag w2 (.cells #[vI 7,vI 0,vI 0,vI 0,vE,.slice B5 0 d5,.slice (some ⟨g,o,none⟩) 1 d6,.slice B7 0 d7] 34);go_wp2_with fail;have HT:=Hz (ht0.keep (w':=w2.alloc (.cells #[vI 7,vI 0,vI 0,vI 0,vE,.slice B5 0 d5,.slice (some ⟨g,o,none⟩) 1 d6,.slice B7 0 d7] 34)) (ok':=fun b=>b<(w2.alloc (.cells #[vI 7,vI 0,vI 0,vI 0,vE,.slice B5 0 d5,.slice (some ⟨g,o,none⟩) 1 d6,.slice B7 0 d7] 34)).heap.size) (Sh.of_fr fb (fun b hb _=>⟨by simp;omega,fun x=>by cases x⟩)));replace x3:=(fb.cell (p:=⟨g,o+2,none⟩) hg (fun x=>by cases x)).trans x3;replace hg:=Nl' hg fb.size;have F3:=F2.trans fb;clear F1 F2 f2 fb ht0
 generalize w2.alloc _=y2 at *
 generalize w2.heap.size=T2 at *
 refine(p2 _ (HE.out.fr F3)).out.mono ?_;rintro e w3 ⟨k',a',nm',n',s'',ls',args',arms',C5,e5,C6,e6,C7,e7,er,at_,rfl,hx,hpr,f4⟩;obtain⟨hX,rfl,rfl⟩:=PR.det awR2PR hpr;have c1:=fun w hV hx=>Hz (Nw k' a' nm' n' s'' ls' args' arms' C5 C6 C7 e5 e6 e7 hpr w hV hx)
 have hR1:Hid (Ql (.mk k' a' nm' n' s'' ls' args' arms')=(.zero,23,3)):=Hz (by rw[hX];exact awR2_res);clear hX hpr p2;have fb:=(Fr.refl [] w3).alloc (.cells #[vI k',vI a',vS nm',vI n',vS s'',.slice C5 ls'.length e5,.slice C6 args'.length e6,.slice C7 arms'.length e7] 27);have HX:=Hz (hx.fr fb);have f5:=f4.trans fb;clear hx fb f4;go_wp2_with fail
 generalize w3.alloc _=y3 at *
 generalize w3.heap.size=T3 at *
 refine(c1 _ (HE.out.fr (F3.trans f5)) HX.out).out.mono ?_;rintro e w4 ⟨k1,a1,v1,n1,s1,D5,m5,g5,D6,m6,g6,D7,m7,g7,rfl,-,f6⟩;rw[hR1.out];clear c1 HX hR1;have f7:=f5.trans f6;have fb:=(Fr.refl [] w4).alloc (.cells #[vI k1,vI a1,vI v1,vI n1,.string ⟨s1⟩,.slice D5 m5 g5,.slice D6 m6 g6,.slice D7 m7 g7] 34);have f8:=f7.trans fb;replace x3:=(f8.cell (p:=⟨g,o+2,none⟩) hg (fun x=>by cases x)).trans x3;replace hg:=Nl' hg f8.size;replace q:=f8.keep q nE;have hT:=Aa q;have F4:=F3.trans f8;replace HT:=Hz (HT.out.keep (w':=w4.alloc (.cells #[vI k1,vI a1,vI v1,vI n1,.string ⟨s1⟩,.slice D5 m5 g5,.slice D6 m6 g6,.slice D7 m7 g7] 34)) (ok':=fun b=>b<(w4.alloc (.cells #[vI k1,vI a1,vI v1,vI n1,.string ⟨s1⟩,.slice D5 m5 g5,.slice D6 m6 g6,.slice D7 m7 g7] 34)).heap.size) (Sh.of_fr f8 (fun b hb _=>⟨Nl' hb f8.size,fun x=>by cases x⟩)));obtain⟨⟨l0,l1,l2,l3,l4,l5,l6,l7⟩,_⟩:=Ac q;obtain⟨C',hC⟩:=awR_ok;unfold awRT at hC HT;have cM:=Hz (May_ok Ua _ _ _ _ _ _ _ _ _ _ _ _ _ _ C' _ hC HT.out);clear F3 f5 f6 f7 fb hC;go_wp2_with fail;refine cM.out.mono ?_;rintro e w5 ⟨rfl,f9⟩;go_wp2_with fail;refine(May_zero _).mono ?_;rintro e w6 ⟨rfl,f10⟩;go_wp2_with fail;go_ret;exact⟨rfl,(F4.trans f9).trans f10⟩
end
theorem resR_ok{x:Ad}{T:At}{f p:Int}(h:Ql x=(T,f,p))(hf:f=0):(tmE x .zero).2.e=0∧T=(tmE x .zero).1:=by
 unfold Ql at h;by_cases e:(tmE x .zero).2.e=0
 ·rw[if_pos e] at h;exact⟨e,(congrArg Prod.fst h).symm⟩
 ·rw[if_neg e] at h;have:=congrArg (fun q=>q.2.1) h;dsimp only at this;exact absurd (this.trans hf) e
end
end Go.Proofs.YtlafbbnikgcdlaaGreatDoor
