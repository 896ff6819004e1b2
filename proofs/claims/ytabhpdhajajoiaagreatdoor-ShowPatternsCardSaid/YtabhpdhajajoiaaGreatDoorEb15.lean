/- A part of the proof: Pc, Vb3. -/
import Derived.Test.YtabhpdhajajoiaaGreatDoorEb8
import Derived.Test.YtabhpdhajajoiaaGreatDoorEb9
import Derived.Test.YtabhpdhajajoiaaGreatDoorEb10
import Derived.Test.YtabhpdhajajoiaaGreatDoorEb11
import Derived.Test.YtabhpdhajajoiaaGreatDoorEb12
namespace Go.Proofs.YtabhpdhajajoiaaGreatDoor
open Go.RowKit
open _root_.Go.Proofs.Tryz
set_option linter.all false
set_option maxHeartbeats 16000000
set_option maxRecDepth 100000
section
attribute [local go_sem ↓] Go.wp_at_zero Go.wp_at_succ
theorem cmp_step(ts:List Tok)(hE:B8 ts)(N:Nat)(ih:Fo ts N):GE ts (N+1) 9 .cmp 180:=by
 intro P g c st w h hm;have H:=Hz h;have hP:=Aa h.blk;have hgl:=h.lt;have hin:=h.inb;have HN:=Hz hm;have HE:=Hz hE;have IH:=Hz ih;clear h hm hE ih;go_enter func180,ntmps180;go_wp2_with fail;have f0:Fr [] w (w.alloc (.cells #[vI 0,vI 0,vE,vI 0,vE,vZ,vZ,vZ] 35)):=(Fr.refl [] w).alloc _;have g0:=Ad w (.cells #[vI 0,vI 0,vE,vI 0,vE,vZ,vZ,vZ] 35)
 generalize w.alloc (.cells #[vI 0,vI 0,vE,vI 0,vE,vZ,vZ,vZ] 35)=w1 at *
 generalize hB:w.heap.size=B at *
 have hB1:=Aa g0;have nP:¬ P=B:=by omega
 have nB:¬ B=P:=by omega
 have ng:¬ g=B:=by omega
 refine(IH.out.sum P g c st w1 (H.out.fr f0) (by have:=HN.out;omega)).mono ?_;rintro e x1 ⟨k1,a1,nm1,n1,s1,ls1,args1,arms1,A51,n51,c51,A61,n61,c61,A71,n71,c71,st1,rfl,hx1,hr1,hst1,f1⟩;have g0:=f1.keep g0 (by simpa using nB);have hs1:=f1.size;have F1:Fr [P] w x1:=(f0.mono (fun x hx=>by cases hx)).trans f1;go_wp2_with fail;have q1:=Ad x1 (.cells #[vI k1,vI a1,vS nm1,vI n1,vS s1,.slice A51 n51 c51,.slice A61 n61 c61,.slice A71 n71 c71] 35);have fb1:Fr [] x1 (x1.alloc (.cells #[vI k1,vI a1,vS nm1,vI n1,vS s1,.slice A51 n51 c51,.slice A61 n61 c61,.slice A71 n71 c71] 35)):=(Fr.refl [] x1).alloc _
 generalize hY1:x1.alloc (.cells #[vI k1,vI a1,vS nm1,vI n1,vS s1,.slice A51 n51 c51,.slice A61 n61 c61,.slice A71 n71 c71] 35)=x2 at *
 have hT1:=Aa q1
 generalize hTT1:x1.heap.size=T3 at *
 have g0:=fb1.keep g0 nE;have h2:=hst1.fr fb1;have F2:=F1.trans0 fb1;have hx1:=hx1.keep (ok':=fun b=>B<b∧¬ b=T3) (Sh.of_fr fb1 (fun b hb hlt=>⟨⟨by omega,by omega⟩,fun x=>by cases x⟩));obtain⟨t,ht⟩:=A4 hst1.inb;refine(B7 P g c ts st1 t ht x2 h2 HE.out).mono ?_;rintro e x3 ⟨rfl,f3⟩;go_wp2_with fail;have q4:=Ad x3 (.cells #[vI t.k,vI t.at',.string ⟨t.text.toArray⟩,vI t.n] 79);have fb4:Fr [] x3 (x3.alloc (.cells #[vI t.k,vI t.at',.string ⟨t.text.toArray⟩,vI t.n] 79)):=(Fr.refl [] x3).alloc _
 generalize hY4:x3.alloc (.cells #[vI t.k,vI t.at',.string ⟨t.text.toArray⟩,vI t.n] 79)=x4 at *
 have hT4:=Aa q4
 generalize hTT4:x3.heap.size=T4 at *
 have f4:=f3.trans fb4;have g0:=f4.keep g0 nE;have q1:=f4.keep q1 nE;have h4:=h2.fr f4;have F4:=F2.trans0 f4;have hs3:=f3.size;have hx1:=hx1.keep (ok':=fun b=>B<b∧¬ b=T3∧¬ b=T4) (Sh.of_fr f4 (fun b hb hlt=>⟨⟨hb.1,hb.2,by omega⟩,fun x=>by cases x⟩));have fa:=(Fr.refl [] x4).alloc (.cells #[.string ⟨[61].toArray⟩,.string ⟨[60].toArray⟩] 9);have hSt:E4 x4.heap.size [[61],[60]] (x4.alloc (.cells #[.string ⟨[61].toArray⟩,.string ⟨[60].toArray⟩] 9)):=E4.lit x4 [[61],[60]] _;have hz4:x4.heap.size=T4+1:=by rw[← hY4,← hTT4];simp
 rw[hz4] at hSt;have ci:=fun cl=>Hz (Gc P g c ts st1 t ht (T4+1) cl [[61],[60]] (by simp) (x4.alloc (.cells #[.string ⟨[61].toArray⟩,.string ⟨[60].toArray⟩] 9)) (h4.fr fa) hSt (by simp[hz4]) HE.out)
 clear hSt hz4;have hle:=hr1.le
 cases hb:isB t st1.ok [[61],[60]] with
 | false =>
  rw[hb] at ci;refine(ci _).out.mono ?_;rintro e x5 ⟨rfl,f5⟩;have f5:=fa.trans f5;have g0:=f5.keep g0 nE;obtain⟨⟨l0,l1,l2,l3,l4,l5,l6,l7⟩,_⟩:=Ac (f5.keep q1 nE);have h5:=h4.fr f5;have hx1:=hx1.keep (ok':=fun b=>B<b) (Sh.of_fr f5 (fun b hb hlt=>⟨hb.1,fun x=>by cases x⟩));have HG:=Hz (Ar g0 (vI k1) (vI a1) (vS nm1) (vI n1) (vS s1) (.slice A51 n51 c51) (.slice A61 n61 c61) (.slice A71 n71 c71));have HF:=Hz ((F4.trans0 f5).step (Ai x5 B (vI k1) (vI a1) (vS nm1) (vI n1) (vS s1) (.slice A51 n51 c51) (.slice A61 n61 c61) (.slice A71 n71 c71)) (fun x hx => .inr (by simp at hx;omega)));have HP:=Hz ((h5).frL (Ai x5 B (vI k1) (vI a1) (vS nm1) (vI n1) (vS s1) (.slice A51 n51 c51) (.slice A61 n61 c61) (.slice A71 n71 c71)) (by simpa using nP) (by simpa using ng));have HX:Hid (Aj (st8 x5 B (vI k1) (vI a1) (vS nm1) (vI n1) (vS s1) (.slice A51 n51 c51) (.slice A61 n61 c61) (.slice A71 n71 c71)) (fun b=>B≤b) (.mk k1 a1 nm1 n1 s1 ls1 args1 arms1) [vI k1,vI a1,vS nm1,vI n1,vS s1,.slice A51 n51 c51,.slice A61 n61 c61,.slice A71 n71 c71]):=Hz ((hx1).keep (Sh.of_fr (Ai x5 B (vI k1) (vI a1) (vS nm1) (vI n1) (vS s1) (.slice A51 n51 c51) (.slice A61 n61 c61) (.slice A71 n71 c71)) (fun b hb hlt=>⟨by omega,by simp;omega⟩)));unfold st8 at HG HF HP HX;obtain⟨⟨u0,u1,u2,u3,u4,u5,u6,u7⟩,z0,z1,z2,z3,z4,z5,z6,z7⟩:=Ac g0;go_wp2_with fail;generalize (((((((x5.setCell ⟨B,0,none⟩ (vI k1)).setCell ⟨B,1,none⟩ (vI a1)).setCell ⟨B,2,none⟩ (vS nm1)).setCell ⟨B,3,none⟩ (vI n1)).setCell ⟨B,4,none⟩ (vS s1)).setCell ⟨B,5,none⟩ (.slice A51 n51 c51)).setCell ⟨B,6,none⟩ (.slice A61 n61 c61)).setCell ⟨B,7,none⟩ (.slice A71 n71 c71)=Z at HG HF HP HX ⊢;obtain⟨⟨d0,d1,d2,d3,d4,d5,d6,d7⟩,_⟩:=Ac HG.out;refine bodyPost_ret (v:=.agg #[vI k1,vI a1,vS nm1,vI n1,vS s1,.slice A51 n51 c51,.slice A61 n61 c61,.slice A71 n71 c71]) ?_ rfl ?_
  ·simp[results,Tryz.f180,go_sem,d0,d1,d2,d3,d4,d5,d6,d7]
  ·exact⟨_,_,_,_,_,_,_,_,_,_,_,_,_,_,_,_,_,_,rfl,by rw[hB];exact HX.out,.callE hr1 (.look ht (by rw[if_neg (by rw[hb];decide)];exact .retE)),HP.out,HF.out⟩
 | true =>
  rw[hb] at ci;have HK:=Hz (G4 hb);refine(ci _).out.mono ?_;rintro e y5 ⟨rfl,f5⟩;have f5:=fa.trans f5;go_wp2_with fail;refine(Dw P g c ts st1 t ht HK.out.1 HK.out.2 y5 (h4.fr f5) HE.out).mono ?_;rintro e x5 ⟨rfl,h5,f5'⟩;have f5:=(f5.mono (L':=[P]) (fun x hx=>by cases hx)).trans f5';have g0:=f5.keep g0 (by simpa using nB);have q1:=f5.keep q1 (by simp;omega);have q4:=f5.keep q4 (by simp;omega);have hs5:=f5.size;have F5:=F4.trans f5;have hx1:=hx1.keep (ok':=fun b=>B<b∧¬ b=T3∧¬ b=T4∧¬ b=P∧b<x5.heap.size) (Sh.of_fr f5 (fun b hb hlt=>⟨⟨hb.1,hb.2.1,hb.2.2,by omega,by omega⟩,by simp;omega⟩));obtain⟨⟨l0,l1,l2,l3,l4,l5,l6,l7⟩,_⟩:=Ac q1;obtain⟨m0,m1,m2,m3,_⟩:=Ao q4;have cE:=fun W hW=>Hz (IH.out.sum P g c ⟨st1.i+1,st1.ok⟩ W hW (by have:=HN.out;have:=h5.inb;simp only at this ⊢;omega))
  go_wp2_with fail;have n34:¬ T3=T4:=by omega
  have n3B:¬ T3=B:=by omega
  have nB3:¬ B=T3:=by omega
  have n4B:¬ T4=B:=by omega
  have nB4:¬ B=T4:=by omega
  clear fb1 fb4 f1 f3 f4 h2 h4 F1 F2 F4 hst1 H ci fa f5' hY1 hY4
  go_region_held3 (fun w'=>(w'.cell? ⟨T4,0,none⟩=some (vI t.k)∧w'.cell? ⟨T4,1,none⟩=some (vI t.at')∧w'.cell? ⟨T4,2,none⟩=some (.string ⟨t.text.toArray⟩)∧w'.cell? ⟨T4,3,none⟩=some (vI t.n))∧(w'.cell? ⟨T3,0,none⟩=some (vI k1)∧w'.cell? ⟨T3,1,none⟩=some (vI a1)∧w'.cell? ⟨T3,2,none⟩=some (vS nm1)∧w'.cell? ⟨T3,3,none⟩=some (vI n1)∧w'.cell? ⟨T3,4,none⟩=some (vS s1)∧w'.cell? ⟨T3,5,none⟩=some (.slice A51 n51 c51)∧w'.cell? ⟨T3,6,none⟩=some (.slice A61 n61 c61)∧w'.cell? ⟨T3,7,none⟩=some (.slice A71 n71 c71))) (go_keep) ((first|((with_reducible refine(Lk t.text _).mono ?_);rintro e w9 ⟨rfl,rfl⟩)| ((with_reducible refine(cE _ (h5.fr (Fr.refl [] x5).drew)).out.mono ?_);rintro e x6 ⟨k2,a2,nm2,n2,s2,ls2,args2,arms2,A52,n52,c52,A62,n62,c62,A72,n72,c72,st2,rfl,hx2,hr2,hst2,f6⟩;have Q1:=f6.keep (w:=x5.drew) q1 (by simp;omega);have Q4:=f6.keep (w:=x5.drew) q4 (by simp;omega);have G6:=f6.keep (w:=x5.drew) g0 (by simpa using nB);have hT36:=Aa Q1;have hT46:=Aa Q4;have hB6:=Aa G6;have M3:=(Ac Q1).1;have M4:=Ao Q4)| ((with_reducible refine(Jq _ t _ _ _ _).mono ?_);rintro e x7 ⟨rfl,f7⟩;have R1:=f7.keep (Af Q1 (.cells #[vI k1,vI a1,vS nm1,vI n1,vS s1,.slice A51 n51 c51,.slice A61 n61 c61,.slice A71 n71 c71,vI k2,vI a2,vS nm2,vI n2,vS s2,.slice A52 n52 c52,.slice A62 n62 c62,.slice A72 n72 c72] 35)) nE;have R4:=f7.keep (Af Q4 (.cells #[vI k1,vI a1,vS nm1,vI n1,vS s1,.slice A51 n51 c51,.slice A61 n61 c61,.slice A71 n71 c71,vI k2,vI a2,vS nm2,vI n2,vS s2,.slice A52 n52 c52,.slice A62 n62 c62,.slice A72 n72 c72] 35)) nE;have G7:=f7.keep (Af G6 (.cells #[vI k1,vI a1,vS nm1,vI n1,vS s1,.slice A51 n51 c51,.slice A61 n61 c61,.slice A71 n71 c71,vI k2,vI a2,vS nm2,vI n2,vS s2,.slice A52 n52 c52,.slice A62 n62 c62,.slice A72 n72 c72] 35)) nE;have hT37:=Aa R1;have hT47:=Aa R4;have hB7:=Aa G7;have M5:=(Ac R1).1;have M6:=Ao R4;obtain⟨⟨u0,u1,u2,u3,u4,u5,u6,u7⟩,z0,z1,z2,z3,z4,z5,z6,z7⟩:=Ac G7)))
  all_goals
   clear M3 M4 M5 M6 u0 u1 u2 u3 u4 u5 u6 u7 z0 z1 z2 z3 z4 z5 z6 z7 l0 l1 l2 l3 l4 l5 l6 l7 m0 m1 m2 m3;have f6:Fr [P] x5 x6:=((Fr.refl [P] x5).drew).trans f6;have f7:Fr [] (x6.alloc (.cells #[vI k1,vI a1,vS nm1,vI n1,vS s1,.slice A51 n51 c51,.slice A61 n61 c61,.slice A71 n71 c71,vI k2,vI a2,vS nm2,vI n2,vS s2,.slice A52 n52 c52,.slice A62 n62 c62,.slice A72 n72 c72] 35)) x7:=f7;have hs6:=f6.size;have hx1:=hx1.keep (ok':=fun b=>B<b∧¬ b=P) (Sh.of_fr f6 (fun b hb hlt=>⟨⟨hb.1,hb.2.2.2.1⟩,by simp;exact hb.2.2.2.1⟩));have hx2:=hx2.keep (ok':=fun b=>B<b∧¬ b=P) (Sh.of_fr (Fr.refl [] x6) (fun b hb hlt=>⟨by have:x5.heap.size≤b:=hb;exact⟨by omega,by omega⟩,fun x=>by cases x⟩));have row6:=Al.lit2 An (T:=35) (size:=8) (ok:=fun b=>B<b∧¬ b=P) hx1 hx2 rfl rfl (by exact⟨by omega,by omega⟩);have row7:=Al.keep (ok':=fun b=>B<b) An row6 (Sh.of_fr f7 (fun b hb hlt=>⟨hb.1,fun x=>by cases x⟩));have HG:=Hz (Ar G7 (vI 19) (vI t.at') (vE) (vI (A1 t.text)) (vE) (vZ) (.slice (some ⟨x6.heap.size,0,none⟩) 2 2) (vZ));have HF:=Hz ((F5.trans (f6.trans0 (((Fr.refl [] x6).alloc _).trans f7))).step (Ai x7 B (vI 19) (vI t.at') (vE) (vI (A1 t.text)) (vE) (vZ) (.slice (some ⟨x6.heap.size,0,none⟩) 2 2) (vZ)) (fun x hx => .inr (by simp at hx;omega)));have HP:=Hz (((hst2.fr (((Fr.refl [] x6).alloc _).trans f7))).frL (Ai x7 B (vI 19) (vI t.at') (vE) (vI (A1 t.text)) (vE) (vZ) (.slice (some ⟨x6.heap.size,0,none⟩) 2 2) (vZ)) (by simpa using nP) (by simpa using ng));have HR:=Hz (Al.keep (ok':=fun b=>B≤b) An row7 (Sh.of_fr (Ai x7 B (vI 19) (vI t.at') (vE) (vI (A1 t.text)) (vE) (vZ) (.slice (some ⟨x6.heap.size,0,none⟩) 2 2) (vZ)) (fun b hb hlt=>⟨by omega,by simp;omega⟩)));unfold st8 at HG HF HP HR;go_wp2_with fail;generalize (((((((x7.setCell ⟨B,0,none⟩ (vI 19)).setCell ⟨B,1,none⟩ (vI t.at')).setCell ⟨B,2,none⟩ (vE)).setCell ⟨B,3,none⟩ (vI (A1 t.text))).setCell ⟨B,4,none⟩ (vE)).setCell ⟨B,5,none⟩ (vZ)).setCell ⟨B,6,none⟩ (.slice (some ⟨x6.heap.size,0,none⟩) 2 2)).setCell ⟨B,7,none⟩ (vZ)=Z at HG HF HP HR ⊢;obtain⟨⟨d0,d1,d2,d3,d4,d5,d6,d7⟩,_⟩:=Ac HG.out;have hxx:=Aj.of_rows (k:=19) (a:=t.at') (nm:=[]) (n:=A1 t.text) (s:=[]) (c5:=fun _=>[]) (c7:=fun _=>[]) Al.nil_ HR.out Al.nil_;refine bodyPost_ret (v:=.agg #[vI 19,vI t.at',vE,vI (A1 t.text),vE,vZ,.slice (some ⟨x6.heap.size,0,none⟩) 2 2,vZ]) ?_ rfl ?_
   ·simp[results,Tryz.f180,go_sem,d0,d1,d2,d3,d4,d5,d6,d7]
   ·exact⟨_,_,_,_,_,_,_,_,_,_,_,_,_,_,_,_,_,_,rfl,by rw[hB];exact hxx,.callE hr1 (.look ht (by rw[if_pos hb];exact .adv (.callE hr2 .retE))),HP.out,HF.out⟩
theorem M1(h:Ky)(k a:Int)(nm:LB)(n:Int)(s:LB)(A5 A6 A7:Option Addr)(nl na ma c5 c6 c7:Nat)(w:World):
  Calls prog 71 #[h.v,.agg #[vI k,vI a,vS nm,vI n,vS s,.slice A5 nl c5,.slice A6 na c6,.slice A7 ma c7]] w fun e w'=>e = .returned (.bool (Ah h nm n s nl na ma))∧Fr [] w w':=by
 obtain⟨b1,b2,b3,b4,m,b6⟩:=h;unfold Ky.v;dsimp only;have m0:¬ (m:Int)<0:=by omega
 cases b1 with
 | true =>
  cases b2 with
  | true =>
   cases b3 with
   | true =>
    cases b4 with
    | true =>
     by_cases t4:na=m
     ·subst t4;by_cases t5:0<ma
      ·have e5:decide (0<(ma:Int))=true:=by simp;omega
       cases b6 <;>(go_enter func71,ntmps71;go_wp2_with fail;go_ret;exact⟨by simp[Ah, *],by(repeat first|exact Fr.refl _ _|refine Fr.alloc ?_ _|refine Fr.drew ?_|refine Fr.setCell ?_ (.inr (by simp)) _)⟩)
      ·have e5:decide (0<(ma:Int))=false:=by simp;omega
       cases b6 <;>(go_enter func71,ntmps71;go_wp2_with fail;go_ret;exact⟨by simp[Ah, *],by(repeat first|exact Fr.refl _ _|refine Fr.alloc ?_ _|refine Fr.drew ?_|refine Fr.setCell ?_ (.inr (by simp)) _)⟩)
     ·have e4:((na:Int)==(m:Int))=false:=by rw[bN];omega
      go_enter func71,ntmps71;go_wp2_with fail;go_ret;exact⟨by simp[Ah, *],by(repeat first|exact Fr.refl _ _|refine Fr.alloc ?_ _|refine Fr.drew ?_|refine Fr.setCell ?_ (.inr (by simp)) _)⟩
    | false =>
     by_cases t3:nl=0
     ·subst t3;by_cases t4:na=m
      ·subst t4;by_cases t5:0<ma
       ·have e5:decide (0<(ma:Int))=true:=by simp;omega
        cases b6 <;>(go_enter func71,ntmps71;go_wp2_with fail;go_ret;exact⟨by simp[Ah, *],by(repeat first|exact Fr.refl _ _|refine Fr.alloc ?_ _|refine Fr.drew ?_|refine Fr.setCell ?_ (.inr (by simp)) _)⟩)
       ·have e5:decide (0<(ma:Int))=false:=by simp;omega
        cases b6 <;>(go_enter func71,ntmps71;go_wp2_with fail;go_ret;exact⟨by simp[Ah, *],by(repeat first|exact Fr.refl _ _|refine Fr.alloc ?_ _|refine Fr.drew ?_|refine Fr.setCell ?_ (.inr (by simp)) _)⟩)
      ·have e4:((na:Int)==(m:Int))=false:=by rw[bN];omega
       go_enter func71,ntmps71;go_wp2_with fail;go_ret;exact⟨by simp[Ah, *],by(repeat first|exact Fr.refl _ _|refine Fr.alloc ?_ _|refine Fr.drew ?_|refine Fr.setCell ?_ (.inr (by simp)) _)⟩
     ·have e3:((nl:Int)==0)=false:=by rw[bN];omega
      go_enter func71,ntmps71;go_wp2_with fail;go_ret;exact⟨by simp[Ah, *],by(repeat first|exact Fr.refl _ _|refine Fr.alloc ?_ _|refine Fr.drew ?_|refine Fr.setCell ?_ (.inr (by simp)) _)⟩
   | false =>
    by_cases t2:s=[]
    ·subst t2
     cases b4 with
     | true =>
      by_cases t4:na=m
      ·subst t4;by_cases t5:0<ma
       ·have e5:decide (0<(ma:Int))=true:=by simp;omega
        cases b6 <;>(go_enter func71,ntmps71;go_wp2_with fail;go_ret;exact⟨by simp[Ah, *],by(repeat first|exact Fr.refl _ _|refine Fr.alloc ?_ _|refine Fr.drew ?_|refine Fr.setCell ?_ (.inr (by simp)) _)⟩)
       ·have e5:decide (0<(ma:Int))=false:=by simp;omega
        cases b6 <;>(go_enter func71,ntmps71;go_wp2_with fail;go_ret;exact⟨by simp[Ah, *],by(repeat first|exact Fr.refl _ _|refine Fr.alloc ?_ _|refine Fr.drew ?_|refine Fr.setCell ?_ (.inr (by simp)) _)⟩)
      ·have e4:((na:Int)==(m:Int))=false:=by rw[bN];omega
       go_enter func71,ntmps71;go_wp2_with fail;go_ret;exact⟨by simp[Ah, *],by(repeat first|exact Fr.refl _ _|refine Fr.alloc ?_ _|refine Fr.drew ?_|refine Fr.setCell ?_ (.inr (by simp)) _)⟩
     | false =>
      by_cases t3:nl=0
      ·subst t3;by_cases t4:na=m
       ·subst t4;by_cases t5:0<ma
        ·have e5:decide (0<(ma:Int))=true:=by simp;omega
         cases b6 <;>(go_enter func71,ntmps71;go_wp2_with fail;go_ret;exact⟨by simp[Ah, *],by(repeat first|exact Fr.refl _ _|refine Fr.alloc ?_ _|refine Fr.drew ?_|refine Fr.setCell ?_ (.inr (by simp)) _)⟩)
        ·have e5:decide (0<(ma:Int))=false:=by simp;omega
         cases b6 <;>(go_enter func71,ntmps71;go_wp2_with fail;go_ret;exact⟨by simp[Ah, *],by(repeat first|exact Fr.refl _ _|refine Fr.alloc ?_ _|refine Fr.drew ?_|refine Fr.setCell ?_ (.inr (by simp)) _)⟩)
       ·have e4:((na:Int)==(m:Int))=false:=by rw[bN];omega
        go_enter func71,ntmps71;go_wp2_with fail;go_ret;exact⟨by simp[Ah, *],by(repeat first|exact Fr.refl _ _|refine Fr.alloc ?_ _|refine Fr.drew ?_|refine Fr.setCell ?_ (.inr (by simp)) _)⟩
      ·have e3:((nl:Int)==0)=false:=by rw[bN];omega
       go_enter func71,ntmps71;go_wp2_with fail;go_ret;exact⟨by simp[Ah, *],by(repeat first|exact Fr.refl _ _|refine Fr.alloc ?_ _|refine Fr.drew ?_|refine Fr.setCell ?_ (.inr (by simp)) _)⟩
    ·have e2:(s==[])=false:=by rw[bN];exact t2
     go_enter func71,ntmps71;go_wp2_with fail;go_ret;exact⟨by simp[Ah, *],by(repeat first|exact Fr.refl _ _|refine Fr.alloc ?_ _|refine Fr.drew ?_|refine Fr.setCell ?_ (.inr (by simp)) _)⟩
  | false =>
   by_cases t1:n=0
   ·subst t1
    cases b3 with
    | true =>
     cases b4 with
     | true =>
      by_cases t4:na=m
      ·subst t4;by_cases t5:0<ma
       ·have e5:decide (0<(ma:Int))=true:=by simp;omega
        cases b6 <;>(go_enter func71,ntmps71;go_wp2_with fail;go_ret;exact⟨by simp[Ah, *],by(repeat first|exact Fr.refl _ _|refine Fr.alloc ?_ _|refine Fr.drew ?_|refine Fr.setCell ?_ (.inr (by simp)) _)⟩)
       ·have e5:decide (0<(ma:Int))=false:=by simp;omega
        cases b6 <;>(go_enter func71,ntmps71;go_wp2_with fail;go_ret;exact⟨by simp[Ah, *],by(repeat first|exact Fr.refl _ _|refine Fr.alloc ?_ _|refine Fr.drew ?_|refine Fr.setCell ?_ (.inr (by simp)) _)⟩)
      ·have e4:((na:Int)==(m:Int))=false:=by rw[bN];omega
       go_enter func71,ntmps71;go_wp2_with fail;go_ret;exact⟨by simp[Ah, *],by(repeat first|exact Fr.refl _ _|refine Fr.alloc ?_ _|refine Fr.drew ?_|refine Fr.setCell ?_ (.inr (by simp)) _)⟩
     | false =>
      by_cases t3:nl=0
      ·subst t3;by_cases t4:na=m
       ·subst t4;by_cases t5:0<ma
        ·have e5:decide (0<(ma:Int))=true:=by simp;omega
         cases b6 <;>(go_enter func71,ntmps71;go_wp2_with fail;go_ret;exact⟨by simp[Ah, *],by(repeat first|exact Fr.refl _ _|refine Fr.alloc ?_ _|refine Fr.drew ?_|refine Fr.setCell ?_ (.inr (by simp)) _)⟩)
        ·have e5:decide (0<(ma:Int))=false:=by simp;omega
         cases b6 <;>(go_enter func71,ntmps71;go_wp2_with fail;go_ret;exact⟨by simp[Ah, *],by(repeat first|exact Fr.refl _ _|refine Fr.alloc ?_ _|refine Fr.drew ?_|refine Fr.setCell ?_ (.inr (by simp)) _)⟩)
       ·have e4:((na:Int)==(m:Int))=false:=by rw[bN];omega
        go_enter func71,ntmps71;go_wp2_with fail;go_ret;exact⟨by simp[Ah, *],by(repeat first|exact Fr.refl _ _|refine Fr.alloc ?_ _|refine Fr.drew ?_|refine Fr.setCell ?_ (.inr (by simp)) _)⟩
      ·have e3:((nl:Int)==0)=false:=by rw[bN];omega
       go_enter func71,ntmps71;go_wp2_with fail;go_ret;exact⟨by simp[Ah, *],by(repeat first|exact Fr.refl _ _|refine Fr.alloc ?_ _|refine Fr.drew ?_|refine Fr.setCell ?_ (.inr (by simp)) _)⟩
    | false =>
     by_cases t2:s=[]
     ·subst t2
      cases b4 with
      | true =>
       by_cases t4:na=m
       ·subst t4;by_cases t5:0<ma
        ·have e5:decide (0<(ma:Int))=true:=by simp;omega
         cases b6 <;>(go_enter func71,ntmps71;go_wp2_with fail;go_ret;exact⟨by simp[Ah, *],by(repeat first|exact Fr.refl _ _|refine Fr.alloc ?_ _|refine Fr.drew ?_|refine Fr.setCell ?_ (.inr (by simp)) _)⟩)
        ·have e5:decide (0<(ma:Int))=false:=by simp;omega
         cases b6 <;>(go_enter func71,ntmps71;go_wp2_with fail;go_ret;exact⟨by simp[Ah, *],by(repeat first|exact Fr.refl _ _|refine Fr.alloc ?_ _|refine Fr.drew ?_|refine Fr.setCell ?_ (.inr (by simp)) _)⟩)
       ·have e4:((na:Int)==(m:Int))=false:=by rw[bN];omega
        go_enter func71,ntmps71;go_wp2_with fail;go_ret;exact⟨by simp[Ah, *],by(repeat first|exact Fr.refl _ _|refine Fr.alloc ?_ _|refine Fr.drew ?_|refine Fr.setCell ?_ (.inr (by simp)) _)⟩
      | false =>
       by_cases t3:nl=0
       ·subst t3;by_cases t4:na=m
        ·subst t4;by_cases t5:0<ma
         ·have e5:decide (0<(ma:Int))=true:=by simp;omega
          cases b6 <;>(go_enter func71,ntmps71;go_wp2_with fail;go_ret;exact⟨by simp[Ah, *],by(repeat first|exact Fr.refl _ _|refine Fr.alloc ?_ _|refine Fr.drew ?_|refine Fr.setCell ?_ (.inr (by simp)) _)⟩)
         ·have e5:decide (0<(ma:Int))=false:=by simp;omega
          cases b6 <;>(go_enter func71,ntmps71;go_wp2_with fail;go_ret;exact⟨by simp[Ah, *],by(repeat first|exact Fr.refl _ _|refine Fr.alloc ?_ _|refine Fr.drew ?_|refine Fr.setCell ?_ (.inr (by simp)) _)⟩)
        ·have e4:((na:Int)==(m:Int))=false:=by rw[bN];omega
         go_enter func71,ntmps71;go_wp2_with fail;go_ret;exact⟨by simp[Ah, *],by(repeat first|exact Fr.refl _ _|refine Fr.alloc ?_ _|refine Fr.drew ?_|refine Fr.setCell ?_ (.inr (by simp)) _)⟩
       ·have e3:((nl:Int)==0)=false:=by rw[bN];omega
        go_enter func71,ntmps71;go_wp2_with fail;go_ret;exact⟨by simp[Ah, *],by(repeat first|exact Fr.refl _ _|refine Fr.alloc ?_ _|refine Fr.drew ?_|refine Fr.setCell ?_ (.inr (by simp)) _)⟩
     ·have e2:(s==[])=false:=by rw[bN];exact t2
      go_enter func71,ntmps71;go_wp2_with fail;go_ret;exact⟨by simp[Ah, *],by(repeat first|exact Fr.refl _ _|refine Fr.alloc ?_ _|refine Fr.drew ?_|refine Fr.setCell ?_ (.inr (by simp)) _)⟩
   ·have e1:(n==0)=false:=by rw[bN];exact t1
    go_enter func71,ntmps71;go_wp2_with fail;go_ret;exact⟨by simp[Ah, *],by(repeat first|exact Fr.refl _ _|refine Fr.alloc ?_ _|refine Fr.drew ?_|refine Fr.setCell ?_ (.inr (by simp)) _)⟩
 | false =>
  by_cases t0:nm=[]
  ·subst t0
   cases b2 with
   | true =>
    cases b3 with
    | true =>
     cases b4 with
     | true =>
      by_cases t4:na=m
      ·subst t4;by_cases t5:0<ma
       ·have e5:decide (0<(ma:Int))=true:=by simp;omega
        cases b6 <;>(go_enter func71,ntmps71;go_wp2_with fail;go_ret;exact⟨by simp[Ah, *],by(repeat first|exact Fr.refl _ _|refine Fr.alloc ?_ _|refine Fr.drew ?_|refine Fr.setCell ?_ (.inr (by simp)) _)⟩)
       ·have e5:decide (0<(ma:Int))=false:=by simp;omega
        cases b6 <;>(go_enter func71,ntmps71;go_wp2_with fail;go_ret;exact⟨by simp[Ah, *],by(repeat first|exact Fr.refl _ _|refine Fr.alloc ?_ _|refine Fr.drew ?_|refine Fr.setCell ?_ (.inr (by simp)) _)⟩)
      ·have e4:((na:Int)==(m:Int))=false:=by rw[bN];omega
       go_enter func71,ntmps71;go_wp2_with fail;go_ret;exact⟨by simp[Ah, *],by(repeat first|exact Fr.refl _ _|refine Fr.alloc ?_ _|refine Fr.drew ?_|refine Fr.setCell ?_ (.inr (by simp)) _)⟩
     | false =>
      by_cases t3:nl=0
      ·subst t3;by_cases t4:na=m
       ·subst t4;by_cases t5:0<ma
        ·have e5:decide (0<(ma:Int))=true:=by simp;omega
         cases b6 <;>(go_enter func71,ntmps71;go_wp2_with fail;go_ret;exact⟨by simp[Ah, *],by(repeat first|exact Fr.refl _ _|refine Fr.alloc ?_ _|refine Fr.drew ?_|refine Fr.setCell ?_ (.inr (by simp)) _)⟩)
        ·have e5:decide (0<(ma:Int))=false:=by simp;omega
         cases b6 <;>(go_enter func71,ntmps71;go_wp2_with fail;go_ret;exact⟨by simp[Ah, *],by(repeat first|exact Fr.refl _ _|refine Fr.alloc ?_ _|refine Fr.drew ?_|refine Fr.setCell ?_ (.inr (by simp)) _)⟩)
       ·have e4:((na:Int)==(m:Int))=false:=by rw[bN];omega
        go_enter func71,ntmps71;go_wp2_with fail;go_ret;exact⟨by simp[Ah, *],by(repeat first|exact Fr.refl _ _|refine Fr.alloc ?_ _|refine Fr.drew ?_|refine Fr.setCell ?_ (.inr (by simp)) _)⟩
      ·have e3:((nl:Int)==0)=false:=by rw[bN];omega
       go_enter func71,ntmps71;go_wp2_with fail;go_ret;exact⟨by simp[Ah, *],by(repeat first|exact Fr.refl _ _|refine Fr.alloc ?_ _|refine Fr.drew ?_|refine Fr.setCell ?_ (.inr (by simp)) _)⟩
    | false =>
     by_cases t2:s=[]
     ·subst t2
      cases b4 with
      | true =>
       by_cases t4:na=m
       ·subst t4;by_cases t5:0<ma
        ·have e5:decide (0<(ma:Int))=true:=by simp;omega
         cases b6 <;>(go_enter func71,ntmps71;go_wp2_with fail;go_ret;exact⟨by simp[Ah, *],by(repeat first|exact Fr.refl _ _|refine Fr.alloc ?_ _|refine Fr.drew ?_|refine Fr.setCell ?_ (.inr (by simp)) _)⟩)
        ·have e5:decide (0<(ma:Int))=false:=by simp;omega
         cases b6 <;>(go_enter func71,ntmps71;go_wp2_with fail;go_ret;exact⟨by simp[Ah, *],by(repeat first|exact Fr.refl _ _|refine Fr.alloc ?_ _|refine Fr.drew ?_|refine Fr.setCell ?_ (.inr (by simp)) _)⟩)
       ·have e4:((na:Int)==(m:Int))=false:=by rw[bN];omega
        go_enter func71,ntmps71;go_wp2_with fail;go_ret;exact⟨by simp[Ah, *],by(repeat first|exact Fr.refl _ _|refine Fr.alloc ?_ _|refine Fr.drew ?_|refine Fr.setCell ?_ (.inr (by simp)) _)⟩
      | false =>
       by_cases t3:nl=0
       ·subst t3;by_cases t4:na=m
        ·subst t4;by_cases t5:0<ma
         ·have e5:decide (0<(ma:Int))=true:=by simp;omega
          cases b6 <;>(go_enter func71,ntmps71;go_wp2_with fail;go_ret;exact⟨by simp[Ah, *],by(repeat first|exact Fr.refl _ _|refine Fr.alloc ?_ _|refine Fr.drew ?_|refine Fr.setCell ?_ (.inr (by simp)) _)⟩)
         ·have e5:decide (0<(ma:Int))=false:=by simp;omega
          cases b6 <;>(go_enter func71,ntmps71;go_wp2_with fail;go_ret;exact⟨by simp[Ah, *],by(repeat first|exact Fr.refl _ _|refine Fr.alloc ?_ _|refine Fr.drew ?_|refine Fr.setCell ?_ (.inr (by simp)) _)⟩)
        ·have e4:((na:Int)==(m:Int))=false:=by rw[bN];omega
         go_enter func71,ntmps71;go_wp2_with fail;go_ret;exact⟨by simp[Ah, *],by(repeat first|exact Fr.refl _ _|refine Fr.alloc ?_ _|refine Fr.drew ?_|refine Fr.setCell ?_ (.inr (by simp)) _)⟩
       ·have e3:((nl:Int)==0)=false:=by rw[bN];omega
        go_enter func71,ntmps71;go_wp2_with fail;go_ret;exact⟨by simp[Ah, *],by(repeat first|exact Fr.refl _ _|refine Fr.alloc ?_ _|refine Fr.drew ?_|refine Fr.setCell ?_ (.inr (by simp)) _)⟩
     ·have e2:(s==[])=false:=by rw[bN];exact t2
      go_enter func71,ntmps71;go_wp2_with fail;go_ret;exact⟨by simp[Ah, *],by(repeat first|exact Fr.refl _ _|refine Fr.alloc ?_ _|refine Fr.drew ?_|refine Fr.setCell ?_ (.inr (by simp)) _)⟩
   | false =>
    by_cases t1:n=0
    ·subst t1
     cases b3 with
     | true =>
      cases b4 with
      | true =>
       by_cases t4:na=m
       ·subst t4;by_cases t5:0<ma
        ·have e5:decide (0<(ma:Int))=true:=by simp;omega
         cases b6 <;>(go_enter func71,ntmps71;go_wp2_with fail;go_ret;exact⟨by simp[Ah, *],by(repeat first|exact Fr.refl _ _|refine Fr.alloc ?_ _|refine Fr.drew ?_|refine Fr.setCell ?_ (.inr (by simp)) _)⟩)
        ·have e5:decide (0<(ma:Int))=false:=by simp;omega
         cases b6 <;>(go_enter func71,ntmps71;go_wp2_with fail;go_ret;exact⟨by simp[Ah, *],by(repeat first|exact Fr.refl _ _|refine Fr.alloc ?_ _|refine Fr.drew ?_|refine Fr.setCell ?_ (.inr (by simp)) _)⟩)
       ·have e4:((na:Int)==(m:Int))=false:=by rw[bN];omega
        go_enter func71,ntmps71;go_wp2_with fail;go_ret;exact⟨by simp[Ah, *],by(repeat first|exact Fr.refl _ _|refine Fr.alloc ?_ _|refine Fr.drew ?_|refine Fr.setCell ?_ (.inr (by simp)) _)⟩
      | false =>
       by_cases t3:nl=0
       ·subst t3;by_cases t4:na=m
        ·subst t4;by_cases t5:0<ma
         ·have e5:decide (0<(ma:Int))=true:=by simp;omega
          cases b6 <;>(go_enter func71,ntmps71;go_wp2_with fail;go_ret;exact⟨by simp[Ah, *],by(repeat first|exact Fr.refl _ _|refine Fr.alloc ?_ _|refine Fr.drew ?_|refine Fr.setCell ?_ (.inr (by simp)) _)⟩)
         ·have e5:decide (0<(ma:Int))=false:=by simp;omega
          cases b6 <;>(go_enter func71,ntmps71;go_wp2_with fail;go_ret;exact⟨by simp[Ah, *],by(repeat first|exact Fr.refl _ _|refine Fr.alloc ?_ _|refine Fr.drew ?_|refine Fr.setCell ?_ (.inr (by simp)) _)⟩)
        ·have e4:((na:Int)==(m:Int))=false:=by rw[bN];omega
         go_enter func71,ntmps71;go_wp2_with fail;go_ret;exact⟨by simp[Ah, *],by(repeat first|exact Fr.refl _ _|refine Fr.alloc ?_ _|refine Fr.drew ?_|refine Fr.setCell ?_ (.inr (by simp)) _)⟩
       ·have e3:((nl:Int)==0)=false:=by rw[bN];omega
        go_enter func71,ntmps71;go_wp2_with fail;go_ret;exact⟨by simp[Ah, *],by(repeat first|exact Fr.refl _ _|refine Fr.alloc ?_ _|refine Fr.drew ?_|refine Fr.setCell ?_ (.inr (by simp)) _)⟩
     | false =>
      by_cases t2:s=[]
      ·subst t2
       cases b4 with
       | true =>
        by_cases t4:na=m
        ·subst t4;by_cases t5:0<ma
         ·have e5:decide (0<(ma:Int))=true:=by simp;omega
          cases b6 <;>(go_enter func71,ntmps71;go_wp2_with fail;go_ret;exact⟨by simp[Ah, *],by(repeat first|exact Fr.refl _ _|refine Fr.alloc ?_ _|refine Fr.drew ?_|refine Fr.setCell ?_ (.inr (by simp)) _)⟩)
         ·have e5:decide (0<(ma:Int))=false:=by simp;omega
          cases b6 <;>(go_enter func71,ntmps71;go_wp2_with fail;go_ret;exact⟨by simp[Ah, *],by(repeat first|exact Fr.refl _ _|refine Fr.alloc ?_ _|refine Fr.drew ?_|refine Fr.setCell ?_ (.inr (by simp)) _)⟩)
        ·have e4:((na:Int)==(m:Int))=false:=by rw[bN];omega
         go_enter func71,ntmps71;go_wp2_with fail;go_ret;exact⟨by simp[Ah, *],by(repeat first|exact Fr.refl _ _|refine Fr.alloc ?_ _|refine Fr.drew ?_|refine Fr.setCell ?_ (.inr (by simp)) _)⟩
       | false =>
        by_cases t3:nl=0
        ·subst t3;by_cases t4:na=m
         ·subst t4;by_cases t5:0<ma
          ·have e5:decide (0<(ma:Int))=true:=by simp;omega
           cases b6 <;>(go_enter func71,ntmps71;go_wp2_with fail;go_ret;exact⟨by simp[Ah, *],by(repeat first|exact Fr.refl _ _|refine Fr.alloc ?_ _|refine Fr.drew ?_|refine Fr.setCell ?_ (.inr (by simp)) _)⟩)
          ·have e5:decide (0<(ma:Int))=false:=by simp;omega
           cases b6 <;>(go_enter func71,ntmps71;go_wp2_with fail;go_ret;exact⟨by simp[Ah, *],by(repeat first|exact Fr.refl _ _|refine Fr.alloc ?_ _|refine Fr.drew ?_|refine Fr.setCell ?_ (.inr (by simp)) _)⟩)
         ·have e4:((na:Int)==(m:Int))=false:=by rw[bN];omega
          go_enter func71,ntmps71;go_wp2_with fail;go_ret;exact⟨by simp[Ah, *],by(repeat first|exact Fr.refl _ _|refine Fr.alloc ?_ _|refine Fr.drew ?_|refine Fr.setCell ?_ (.inr (by simp)) _)⟩
        ·have e3:((nl:Int)==0)=false:=by rw[bN];omega
         go_enter func71,ntmps71;go_wp2_with fail;go_ret;exact⟨by simp[Ah, *],by(repeat first|exact Fr.refl _ _|refine Fr.alloc ?_ _|refine Fr.drew ?_|refine Fr.setCell ?_ (.inr (by simp)) _)⟩
      ·have e2:(s==[])=false:=by rw[bN];exact t2
       go_enter func71,ntmps71;go_wp2_with fail;go_ret;exact⟨by simp[Ah, *],by(repeat first|exact Fr.refl _ _|refine Fr.alloc ?_ _|refine Fr.drew ?_|refine Fr.setCell ?_ (.inr (by simp)) _)⟩
    ·have e1:(n==0)=false:=by rw[bN];exact t1
     go_enter func71,ntmps71;go_wp2_with fail;go_ret;exact⟨by simp[Ah, *],by(repeat first|exact Fr.refl _ _|refine Fr.alloc ?_ _|refine Fr.drew ?_|refine Fr.setCell ?_ (.inr (by simp)) _)⟩
  ·have e0:(nm==[])=false:=by rw[bN];exact t0
   go_enter func71,ntmps71;go_wp2_with fail;go_ret;exact⟨by simp[Ah, *],by(repeat first|exact Fr.refl _ _|refine Fr.alloc ?_ _|refine Fr.drew ?_|refine Fr.setCell ?_ (.inr (by simp)) _)⟩
end
end Go.Proofs.YtabhpdhajajoiaaGreatDoor
