/- A part of the proof: Pc, Ph, Pl, Pn1, Pn, It1. -/
import Derived.Deep.DrawnRows
import Derived.Test.YtpjkfeehgookkaaGreatDoorGn10
import Derived.Test.YtpjkfeehgookkaaGreatDoorGn11
import Derived.Test.YtpjkfeehgookkaaGreatDoorGn8
import Derived.Test.YtpjkfeehgookkaaGreatDoorGn9
namespace Go.Proofs.YtpjkfeehgookkaaGreatDoor
open Go.RowKit
open _root_.Go.Proofs.Tryz
set_option linter.all false
set_option maxHeartbeats 16000000
set_option maxRecDepth 100000
open Nat renaming lt_of_lt_of_le→Nl',le_refl→Nr'
section
attribute [local go_sem ↓] Go.wp_at_zero Go.wp_at_succ
theorem Ri(ts:List Tok)(hE:Be ts)(N:Nat)(ih:Dp ts N):GE ts (N+1) 9 .cmp 113:=by
 intro P g c st w h hm;have H:=Hz h;have hP:=Aa h.blk;have hgl:=h.lt;have hin:=h.inb;have HN:=Hz hm;have HE:=Hz hE;have IH:=Hz ih;clear h hm hE ih;go_enter func113,ntmps113;go_wp2_with fail;have f0:Fr [] w (w.alloc (.cells #[vI 0,vI 0,vE,vI 0,vE,vZ,vZ,vZ] 27)):=(Fr.refl [] w).alloc _;have g0:=Ab w (.cells #[vI 0,vI 0,vE,vI 0,vE,vZ,vZ,vZ] 27)
 generalize w.alloc (.cells #[vI 0,vI 0,vE,vI 0,vE,vZ,vZ,vZ] 27)=w1 at *
 generalize hB:w.heap.size=B at *
 have hB1:=Aa g0;have nP:¬ P=B:=by omega
 have nB:¬ B=P:=by omega
 have ng:¬ g=B:=by omega
 refine(IH.out.sum P g c st w1 (H.out.fr f0) (by have:=HN.out;omega)).mono ?_;rintro e x1 ⟨k1,a1,nm1,n1,s1,ls1,args1,arms1,A51,n51,c51,A61,n61,c61,A71,n71,c71,st1,rfl,hx1,hr1,hst1,f1⟩;have g0:=f1.keep g0 (by simpa using nB);have hs1:=f1.size;have F1:Fr [P] w x1:=(f0.mono (fun x hx=>by cases hx)).trans f1;go_wp2_with fail;have q1:=Ab x1 (.cells #[vI k1,vI a1,vS nm1,vI n1,vS s1,.slice A51 n51 c51,.slice A61 n61 c61,.slice A71 n71 c71] 27);have fb1:Fr [] x1 (x1.alloc (.cells #[vI k1,vI a1,vS nm1,vI n1,vS s1,.slice A51 n51 c51,.slice A61 n61 c61,.slice A71 n71 c71] 27)):=(Fr.refl [] x1).alloc _
 generalize hY1:x1.alloc (.cells #[vI k1,vI a1,vS nm1,vI n1,vS s1,.slice A51 n51 c51,.slice A61 n61 c61,.slice A71 n71 c71] 27)=x2 at *
 have hT1:=Aa q1
 generalize hTT1:x1.heap.size=T3 at *
 have g0:=fb1.keep g0 nE;have h2:=hst1.fr fb1;have F2:=F1.trans0 fb1;have hx1:=hx1.keep (ok':=fun b=>B<b∧¬ b=T3) (Sh.of_fr fb1 (fun b hb hlt=>⟨⟨by omega,by omega⟩,fun x=>by cases x⟩));obtain⟨t,ht⟩:=At hst1.inb;refine(Bd P g c ts st1 t ht x2 h2 HE.out).mono ?_;rintro e x3 ⟨rfl,f3⟩;go_wp2_with fail;have q4:=Ab x3 (.cells #[vI t.k,vI t.at',.string ⟨t.text.toArray⟩,vI t.n] 46);have fb4:Fr [] x3 (x3.alloc (.cells #[vI t.k,vI t.at',.string ⟨t.text.toArray⟩,vI t.n] 46)):=(Fr.refl [] x3).alloc _
 generalize hY4:x3.alloc (.cells #[vI t.k,vI t.at',.string ⟨t.text.toArray⟩,vI t.n] 46)=x4 at *
 have hT4:=Aa q4
 generalize hTT4:x3.heap.size=T4 at *
 have f4:=f3.trans fb4;have g0:=f4.keep g0 nE;have q1:=f4.keep q1 nE;have h4:=h2.fr f4;have F4:=F2.trans0 f4;have hs3:=f3.size;have hx1:=hx1.keep (ok':=fun b=>B<b∧¬ b=T3∧¬ b=T4) (Sh.of_fr f4 (fun b hb hlt=>⟨⟨hb.1,hb.2,by omega⟩,fun x=>by cases x⟩));have fa:=(Fr.refl [] x4).alloc (.cells #[.string ⟨[61].toArray⟩,.string ⟨[60].toArray⟩] 9);have hSt:Dc x4.heap.size [[61],[60]] (x4.alloc (.cells #[.string ⟨[61].toArray⟩,.string ⟨[60].toArray⟩] 9)):=Dc.lit x4 [[61],[60]] _;have hz4:x4.heap.size=T4+1:=by rw[← hY4,← hTT4];simp
 rw[hz4] at hSt;have ci:=fun cl=>Hz (Dx P g c ts st1 t ht (T4+1) cl [[61],[60]] (by simp) (x4.alloc (.cells #[.string ⟨[61].toArray⟩,.string ⟨[60].toArray⟩] 9)) (h4.fr fa) hSt (by simp[hz4]) HE.out)
 clear hSt hz4;have hle:=hr1.le
 cases hb:isB t st1.ok [[61],[60]] with
 | false =>
  rw[hb] at ci;refine(ci _).out.mono ?_;rintro e x5 ⟨rfl,f5⟩;have f5:=fa.trans f5;have g0:=f5.keep g0 nE;obtain⟨⟨l0,l1,l2,l3,l4,l5,l6,l7⟩,_⟩:=Ac (f5.keep q1 nE);have h5:=h4.fr f5;have hx1:=hx1.keep (ok':=fun b=>B<b) (Sh.of_fr f5 (fun b hb hlt=>⟨hb.1,fun x=>by cases x⟩));have HG:=Hz (An g0 (vI k1) (vI a1) (vS nm1) (vI n1) (vS s1) (.slice A51 n51 c51) (.slice A61 n61 c61) (.slice A71 n71 c71));have HF:=Hz ((F4.trans0 f5).step (Ag x5 B (vI k1) (vI a1) (vS nm1) (vI n1) (vS s1) (.slice A51 n51 c51) (.slice A61 n61 c61) (.slice A71 n71 c71)) (fun x hx => .inr (by simp at hx;omega)));have HP:=Hz ((h5).frL (Ag x5 B (vI k1) (vI a1) (vS nm1) (vI n1) (vS s1) (.slice A51 n51 c51) (.slice A61 n61 c61) (.slice A71 n71 c71)) (by simpa using nP) (by simpa using ng));have HX:Hid (Ai (st8 x5 B (vI k1) (vI a1) (vS nm1) (vI n1) (vS s1) (.slice A51 n51 c51) (.slice A61 n61 c61) (.slice A71 n71 c71)) (fun b=>B≤b) (.mk k1 a1 nm1 n1 s1 ls1 args1 arms1) [vI k1,vI a1,vS nm1,vI n1,vS s1,.slice A51 n51 c51,.slice A61 n61 c61,.slice A71 n71 c71]):=Hz ((hx1).keep (Sh.of_fr (Ag x5 B (vI k1) (vI a1) (vS nm1) (vI n1) (vS s1) (.slice A51 n51 c51) (.slice A61 n61 c61) (.slice A71 n71 c71)) (fun b hb hlt=>⟨by omega,by simp;omega⟩)));unfold st8 at HG HF HP HX;obtain⟨⟨u0,u1,u2,u3,u4,u5,u6,u7⟩,z0,z1,z2,z3,z4,z5,z6,z7⟩:=Ac g0;go_wp2_with fail;generalize (((((((x5.setCell ⟨B,0,none⟩ (vI k1)).setCell ⟨B,1,none⟩ (vI a1)).setCell ⟨B,2,none⟩ (vS nm1)).setCell ⟨B,3,none⟩ (vI n1)).setCell ⟨B,4,none⟩ (vS s1)).setCell ⟨B,5,none⟩ (.slice A51 n51 c51)).setCell ⟨B,6,none⟩ (.slice A61 n61 c61)).setCell ⟨B,7,none⟩ (.slice A71 n71 c71)=Z at HG HF HP HX ⊢;obtain⟨⟨d0,d1,d2,d3,d4,d5,d6,d7⟩,_⟩:=Ac HG.out;refine bodyPost_ret (v:=.agg #[vI k1,vI a1,vS nm1,vI n1,vS s1,.slice A51 n51 c51,.slice A61 n61 c61,.slice A71 n71 c71]) ?_ rfl ?_
  ·simp[results,Tryz.f113,go_sem,d0,d1,d2,d3,d4,d5,d6,d7]
  ·exact⟨_,_,_,_,_,_,_,_,_,_,_,_,_,_,_,_,_,_,rfl,by rw[hB];exact HX.out,.callE hr1 (.look ht (by rw[if_neg (by rw[hb];decide)];exact .retE)),HP.out,HF.out⟩
 | true =>
  rw[hb] at ci;have HK:=Hz (Em hb);refine(ci _).out.mono ?_;rintro e y5 ⟨rfl,f5⟩;have f5:=fa.trans f5;go_wp2_with fail;refine(Ch P g c ts st1 t ht HK.out.1 HK.out.2 y5 (h4.fr f5) HE.out).mono ?_;rintro e x5 ⟨rfl,h5,f5'⟩;have f5:=(f5.mono (L':=[P]) (fun x hx=>by cases hx)).trans f5';have g0:=f5.keep g0 (by simpa using nB);have q1:=f5.keep q1 (by simp;omega);have q4:=f5.keep q4 (by simp;omega);have hs5:=f5.size;have F5:=F4.trans f5;have hx1:=hx1.keep (ok':=fun b=>B<b∧¬ b=T3∧¬ b=T4∧¬ b=P∧b<x5.heap.size) (Sh.of_fr f5 (fun b hb hlt=>⟨⟨hb.1,hb.2.1,hb.2.2,by omega,by omega⟩,by simp;omega⟩));obtain⟨⟨l0,l1,l2,l3,l4,l5,l6,l7⟩,_⟩:=Ac q1;obtain⟨m0,m1,m2,m3,_⟩:=Am q4;have cE:=fun W hW=>Hz (IH.out.sum P g c ⟨st1.i+1,st1.ok⟩ W hW (by have:=HN.out;have:=h5.inb;simp only at this ⊢;omega))
  go_wp2_with fail;have n34:¬ T3=T4:=by omega
  have n3B:¬ T3=B:=by omega
  have nB3:¬ B=T3:=by omega
  have n4B:¬ T4=B:=by omega
  have nB4:¬ B=T4:=by omega
  clear fb1 fb4 f1 f3 f4 h2 h4 F1 F2 F4 hst1 H ci fa f5' hY1 hY4
  go_region_held3 (fun w'=>(w'.cell? ⟨T4,0,none⟩=some (vI t.k)∧w'.cell? ⟨T4,1,none⟩=some (vI t.at')∧w'.cell? ⟨T4,2,none⟩=some (.string ⟨t.text.toArray⟩)∧w'.cell? ⟨T4,3,none⟩=some (vI t.n))∧(w'.cell? ⟨T3,0,none⟩=some (vI k1)∧w'.cell? ⟨T3,1,none⟩=some (vI a1)∧w'.cell? ⟨T3,2,none⟩=some (vS nm1)∧w'.cell? ⟨T3,3,none⟩=some (vI n1)∧w'.cell? ⟨T3,4,none⟩=some (vS s1)∧w'.cell? ⟨T3,5,none⟩=some (.slice A51 n51 c51)∧w'.cell? ⟨T3,6,none⟩=some (.slice A61 n61 c61)∧w'.cell? ⟨T3,7,none⟩=some (.slice A71 n71 c71))) (go_keep) ((first|((with_reducible refine(Hi t.text _).mono ?_);rintro e w9 ⟨rfl,rfl⟩)| ((with_reducible refine(cE _ (h5.fr (Fr.refl [] x5).drew)).out.mono ?_);rintro e x6 ⟨k2,a2,nm2,n2,s2,ls2,args2,arms2,A52,n52,c52,A62,n62,c62,A72,n72,c72,st2,rfl,hx2,hr2,hst2,f6⟩;have Q1:=f6.keep (w:=x5.drew) q1 (by simp;omega);have Q4:=f6.keep (w:=x5.drew) q4 (by simp;omega);have G6:=f6.keep (w:=x5.drew) g0 (by simpa using nB);have hT36:=Aa Q1;have hT46:=Aa Q4;have hB6:=Aa G6;have M3:=(Ac Q1).1;have M4:=Am Q4)| ((with_reducible refine(Gj _ t _ _ _ _).mono ?_);rintro e x7 ⟨rfl,f7⟩;have R1:=f7.keep (Ad Q1 (.cells #[vI k1,vI a1,vS nm1,vI n1,vS s1,.slice A51 n51 c51,.slice A61 n61 c61,.slice A71 n71 c71,vI k2,vI a2,vS nm2,vI n2,vS s2,.slice A52 n52 c52,.slice A62 n62 c62,.slice A72 n72 c72] 27)) nE;have R4:=f7.keep (Ad Q4 (.cells #[vI k1,vI a1,vS nm1,vI n1,vS s1,.slice A51 n51 c51,.slice A61 n61 c61,.slice A71 n71 c71,vI k2,vI a2,vS nm2,vI n2,vS s2,.slice A52 n52 c52,.slice A62 n62 c62,.slice A72 n72 c72] 27)) nE;have G7:=f7.keep (Ad G6 (.cells #[vI k1,vI a1,vS nm1,vI n1,vS s1,.slice A51 n51 c51,.slice A61 n61 c61,.slice A71 n71 c71,vI k2,vI a2,vS nm2,vI n2,vS s2,.slice A52 n52 c52,.slice A62 n62 c62,.slice A72 n72 c72] 27)) nE;have hT37:=Aa R1;have hT47:=Aa R4;have hB7:=Aa G7;have M5:=(Ac R1).1;have M6:=Am R4;obtain⟨⟨u0,u1,u2,u3,u4,u5,u6,u7⟩,z0,z1,z2,z3,z4,z5,z6,z7⟩:=Ac G7)))
  all_goals
   clear M3 M4 M5 M6 u0 u1 u2 u3 u4 u5 u6 u7 z0 z1 z2 z3 z4 z5 z6 z7 l0 l1 l2 l3 l4 l5 l6 l7 m0 m1 m2 m3;have f6:Fr [P] x5 x6:=((Fr.refl [P] x5).drew).trans f6;have f7:Fr [] (x6.alloc (.cells #[vI k1,vI a1,vS nm1,vI n1,vS s1,.slice A51 n51 c51,.slice A61 n61 c61,.slice A71 n71 c71,vI k2,vI a2,vS nm2,vI n2,vS s2,.slice A52 n52 c52,.slice A62 n62 c62,.slice A72 n72 c72] 27)) x7:=f7;have hs6:=f6.size;have hx1:=hx1.keep (ok':=fun b=>B<b∧¬ b=P) (Sh.of_fr f6 (fun b hb hlt=>⟨⟨hb.1,hb.2.2.2.1⟩,by simp;exact hb.2.2.2.1⟩));have hx2:=hx2.keep (ok':=fun b=>B<b∧¬ b=P) (Sh.of_fr (Fr.refl [] x6) (fun b hb hlt=>⟨by have:x5.heap.size≤b:=hb;exact⟨by omega,by omega⟩,fun x=>by cases x⟩));have row6:=Aj.lit2 Al (T:=27) (size:=8) (ok:=fun b=>B<b∧¬ b=P) hx1 hx2 rfl rfl (by exact⟨by omega,by omega⟩);have row7:=Aj.keep (ok':=fun b=>B<b) Al row6 (Sh.of_fr f7 (fun b hb hlt=>⟨hb.1,fun x=>by cases x⟩));have HG:=Hz (An G7 (vI 19) (vI t.at') (vE) (vI (Aw t.text)) (vE) (vZ) (.slice (some ⟨x6.heap.size,0,none⟩) 2 2) (vZ));have HF:=Hz ((F5.trans (f6.trans0 (((Fr.refl [] x6).alloc _).trans f7))).step (Ag x7 B (vI 19) (vI t.at') (vE) (vI (Aw t.text)) (vE) (vZ) (.slice (some ⟨x6.heap.size,0,none⟩) 2 2) (vZ)) (fun x hx => .inr (by simp at hx;omega)));have HP:=Hz (((hst2.fr (((Fr.refl [] x6).alloc _).trans f7))).frL (Ag x7 B (vI 19) (vI t.at') (vE) (vI (Aw t.text)) (vE) (vZ) (.slice (some ⟨x6.heap.size,0,none⟩) 2 2) (vZ)) (by simpa using nP) (by simpa using ng));have HR:=Hz (Aj.keep (ok':=fun b=>B≤b) Al row7 (Sh.of_fr (Ag x7 B (vI 19) (vI t.at') (vE) (vI (Aw t.text)) (vE) (vZ) (.slice (some ⟨x6.heap.size,0,none⟩) 2 2) (vZ)) (fun b hb hlt=>⟨by omega,by simp;omega⟩)));unfold st8 at HG HF HP HR;go_wp2_with fail;generalize (((((((x7.setCell ⟨B,0,none⟩ (vI 19)).setCell ⟨B,1,none⟩ (vI t.at')).setCell ⟨B,2,none⟩ (vE)).setCell ⟨B,3,none⟩ (vI (Aw t.text))).setCell ⟨B,4,none⟩ (vE)).setCell ⟨B,5,none⟩ (vZ)).setCell ⟨B,6,none⟩ (.slice (some ⟨x6.heap.size,0,none⟩) 2 2)).setCell ⟨B,7,none⟩ (vZ)=Z at HG HF HP HR ⊢;obtain⟨⟨d0,d1,d2,d3,d4,d5,d6,d7⟩,_⟩:=Ac HG.out;have hxx:=Ai.of_rows (k:=19) (a:=t.at') (nm:=[]) (n:=Aw t.text) (s:=[]) (c5:=fun _=>[]) (c7:=fun _=>[]) Aj.nil_ HR.out Aj.nil_;refine bodyPost_ret (v:=.agg #[vI 19,vI t.at',vE,vI (Aw t.text),vE,vZ,.slice (some ⟨x6.heap.size,0,none⟩) 2 2,vZ]) ?_ rfl ?_
   ·simp[results,Tryz.f113,go_sem,d0,d1,d2,d3,d4,d5,d6,d7]
   ·exact⟨_,_,_,_,_,_,_,_,_,_,_,_,_,_,_,_,_,_,rfl,by rw[hB];exact hxx,.callE hr1 (.look ht (by rw[if_pos hb];exact .adv (.callE hr2 .retE))),HP.out,HF.out⟩
theorem Ef:(prog.info? 27).map (fun i=>(i.zero,i.size,i.bytes))=some (some (.agg #[vI 0,vI 0,vE,vI 0,vE,vZ,vZ,vZ]),8,128):=by kernel_rfl
theorem app_tag(ts:List Tok)(hE:Be ts)(N:Nat)(ih:Dp ts N)(P g c:Nat)(st:St)(w:World)(h:PSt P g c ts st w)(hm:16 *(ts.length-st.i)+5<N+1)(t:Tok)(ht:ts[st.i]?=some t)(hok:st.ok=true)(hk:(t.k==3)=true):Calls prog 152 #[.pointer (some ⟨P,0,none⟩)] w (Fl P g c ts st (body .app) w):=by
 have HOK:=Hz hok;have HK:=Hz hk;clear hok hk;have H:=Hz h;have hP:=Aa h.blk;have hgl:=h.lt;have hin:=h.inb;have HN:=Hz hm;have HE:=Hz hE;have IH:=Hz ih;clear h hm hE ih;go_enter func152,ntmps152;go_wp2_with fail;have f0:Fr [] w (w.alloc (.cells #[vI 0,vI 0,vE,vI 0,vE,vZ,vZ,vZ] 27)):=(Fr.refl [] w).alloc _;have g0:=Ab w (.cells #[vI 0,vI 0,vE,vI 0,vE,vZ,vZ,vZ] 27)
 generalize w.alloc (.cells #[vI 0,vI 0,vE,vI 0,vE,vZ,vZ,vZ] 27)=w1 at *
 generalize hB:w.heap.size=B at *
 have hB1:=Aa g0;have nP:¬ P=B:=by omega
 have nB:¬ B=P:=by omega
 have ng:¬ g=B:=by omega
 refine(Bd P g c ts st t ht w1 (H.out.fr f0) HE.out).mono ?_;rintro e x3 ⟨rfl,f3⟩;have hTB:=Aa (f3.keep g0 nE);have h3:=H.out.fr (f0.trans f3);have hP3:=Aa h3.blk;have q3:=Ab x3 (.cells #[vI t.k,vI t.at',.string ⟨t.text.toArray⟩,vI t.n] 46);have fb4:Fr [] x3 (x3.alloc (.cells #[vI t.k,vI t.at',.string ⟨t.text.toArray⟩,vI t.n] 46)):=(Fr.refl [] x3).alloc _;have f4:=(f0.trans f3).trans fb4;have g0:=(f3.trans fb4).keep g0 nE;have h4:=H.out.fr f4;obtain⟨p0,p1,p2,_⟩:=C2 h3.blk;have hT4:=Aa q3;clear h3 fb4;have HT:=Hz ht
 ·have hok:=HOK.out;have hk:=HK.out;rw[hok] at p2;have hk0:t.k≠0:=by have:=beq_iff_eq.1 hk;omega
  have cx:=fun w h=>Hz (Ch P g c ts st t ht hok hk0 w h HE.out)
  clear hok hk0;go_wp2_with fail;clear p0 p1 p2 hk
  generalize x3.alloc (.cells #[vI t.k,vI t.at',.string ⟨t.text.toArray⟩,vI t.n] 46)=x4 at *
  generalize x3.heap.size=T3 at *
  refine(cx x4 h4).out.mono ?_;rintro e x5 ⟨rfl,h5,f5⟩;have g0:=f5.keep g0 (by simpa using nB);have q3:=f5.keep q3 (by simp;omega);have hs5:=f5.size;have F5:Fr [P] w x5:=(f4.mono (fun x hx=>by cases hx)).trans f5;have cS:=fun W hW=>Hz (IH.out.post P g c ⟨st.i+1,st.ok⟩ W hW (by have:=HN.out;have:=h5.inb;simp only at this ⊢;omega))
  obtain⟨m0,m1,m2,m3,_⟩:=Am q3;have n3B:¬ T3=B:=by omega
  have nB3:¬ B=T3:=by omega
  clear cx ht;go_wp2_with fail
  go_region_held3 (fun w'=>w'.cell? ⟨T3,1,none⟩=some (vI t.at')∧w'.cell? ⟨T3,2,none⟩=some (.string ⟨t.text.toArray⟩)) (first|go_keep|exact⟨M6.2.1,M6.2.2.1⟩) (((with_reducible refine(cS _ (h5.fr (Fr.refl [] x5).drew)).out.mono ?_);rintro e x6 ⟨k2,a2,nm2,n2,s2,ls2,args2,arms2,A52,n52,c52,A62,n62,c62,A72,n72,c72,st2,rfl,hx2,hr2,hst2,f6⟩;have Q6:=f6.keep (w:=x5.drew) q3 (by simp;omega);have hT6:=Aa Q6;have M6:=Am Q6;have G6:=f6.keep (w:=x5.drew) g0 (by simpa using nB);have hB6:=Aa G6;obtain⟨⟨u0,u1,u2,u3,u4,u5,u6,u7⟩,z0,z1,z2,z3,z4,z5,z6,z7⟩:=Ac G6))
  clear m0 m1 m2 m3 M6 u0 u1 u2 u3 u4 u5 u6 u7 z0 z1 z2 z3 z4 z5 z6 z7;have f6:Fr [P] x5 x6:=((Fr.refl [P] x5).drew).trans f6;have hx2:=hx2.keep (ok':=fun b=>B<b) (Sh.of_fr (Fr.refl [] x6) (fun b hb hlt=>⟨by have:x5.heap.size≤b:=hb;omega,fun x=>by cases x⟩));have HG:=Hz (An G6 (vI 15) (vI t.at') (.string ⟨t.text.toArray⟩) (vI 0) (vE) (vZ) (.slice (some ⟨x6.heap.size,0,none⟩) 1 1) (vZ));have HF:=Hz ((F5.trans f6).step (Ag x6 B (vI 15) (vI t.at') (.string ⟨t.text.toArray⟩) (vI 0) (vE) (vZ) (.slice (some ⟨x6.heap.size,0,none⟩) 1 1) (vZ)) (fun x hx => .inr (by simp at hx;omega)));have HP:=Hz ((hst2).frL (Ag x6 B (vI 15) (vI t.at') (.string ⟨t.text.toArray⟩) (vI 0) (vE) (vZ) (.slice (some ⟨x6.heap.size,0,none⟩) 1 1) (vZ)) (by simpa using nP) (by simpa using ng));have HS:=Hz (C5 x6 B (vI 15) (vI t.at') (.string ⟨t.text.toArray⟩) (vI 0) (vE) (vZ) (.slice (some ⟨x6.heap.size,0,none⟩) 1 1) (vZ));have HX2:Hid (Ai (st8 x6 B (vI 15) (vI t.at') (.string ⟨t.text.toArray⟩) (vI 0) (vE) (vZ) (.slice (some ⟨x6.heap.size,0,none⟩) 1 1) (vZ)) (fun b=>B≤b) (.mk k2 a2 nm2 n2 s2 ls2 args2 arms2) [vI k2,vI a2,vS nm2,vI n2,vS s2,.slice A52 n52 c52,.slice A62 n62 c62,.slice A72 n72 c72]):=Hz ((hx2).keep (Sh.of_fr (Ag x6 B (vI 15) (vI t.at') (.string ⟨t.text.toArray⟩) (vI 0) (vE) (vZ) (.slice (some ⟨x6.heap.size,0,none⟩) 1 1) (vZ)) (fun b hb hlt=>⟨by omega,by simp;omega⟩)));unfold st8 at HG HF HP HS HX2;go_wp2_with fail;generalize (((((((x6.setCell ⟨B,0,none⟩ (vI 15)).setCell ⟨B,1,none⟩ (vI t.at')).setCell ⟨B,2,none⟩ (.string ⟨t.text.toArray⟩)).setCell ⟨B,3,none⟩ (vI 0)).setCell ⟨B,4,none⟩ (vE)).setCell ⟨B,5,none⟩ (vZ)).setCell ⟨B,6,none⟩ (.slice (some ⟨x6.heap.size,0,none⟩) 1 1)).setCell ⟨B,7,none⟩ (vZ)=Z at HG HF HP HS HX2 ⊢;obtain⟨⟨d0,d1,d2,d3,d4,d5,d6,d7⟩,_⟩:=Ac (Ad HG.out (.cells #[vI k2,vI a2,vS nm2,vI n2,vS s2,.slice A52 n52 c52,.slice A62 n62 c62,.slice A72 n72 c72] 27));have hBZ:B≤Z.heap.size:=by have:=Aa HG.out;omega
  have row:=Aj.lit Al (T:=27) (size:=8) HX2.out rfl (ok:=fun b=>B≤b) hBZ;rw[HS.out] at row;have hxx:=Ai.of_rows (k:=15) (a:=t.at') (nm:=t.text) (n:=0) (s:=[]) (c5:=fun _=>[]) (c7:=fun _=>[]) Aj.nil_ row Aj.nil_;refine bodyPost_ret (v:=.agg #[vI 15,vI t.at',.string ⟨t.text.toArray⟩,vI 0,vE,vZ,.slice (some ⟨x6.heap.size,0,none⟩) 1 1,vZ]) ?_ rfl ?_
  ·simp[results,Tryz.f152,go_sem,d0,d1,d2,d3,d4,d5,d6,d7]
  ·exact⟨_,_,_,_,_,_,_,_,_,_,_,_,_,_,_,_,_,_,rfl,by rw[hB];exact hxx,.look HT.out (by rw[HOK.out,HK.out];exact .adv (.callE hr2 .retE)),HP.out.fr ((Fr.refl [] Z).alloc _),HF.out.alloc _⟩
theorem app_op(ts:List Tok)(hE:Be ts)(N:Nat)(ih:Dp ts N)(P g c:Nat)(st:St)(w:World)(h:PSt P g c ts st w)(hm:16 *(ts.length-st.i)+5<N+1)(t:Tok)(ht:ts[st.i]?=some t)(hok:st.ok=true)(hk:(t.k==6)=true)(hcn:0<(Bg t.text).1):Calls prog 152 #[.pointer (some ⟨P,0,none⟩)] w (Fl P g c ts st (body .app) w):=by
 have HOK:=Hz hok;have HK:=Hz hk;have HC:Hid (0<(Bg t.text).1):=Hz hcn;have hk3:(t.k==3)=false:=by rw[bN];have:=beq_iff_eq.1 hk;omega
 have HK3:=Hz hk3;have cc:=fun w=>Hz (Jf t.text w)
 have HCM:Hid ((Bg t.text).2≤3):=Hz (by unfold Bg;split <;>(try simp)<;>(repeat(split <;>(try simp))))
 generalize hcall:Bg t.text=cnm at *
 obtain⟨cn,cm⟩:=cnm;have HCALL:=Hz hcall
 simp only at *
 clear hok hk hk3 hcall;have H:=Hz h;have hP:=Aa h.blk;have hgl:=h.lt;have hin:=h.inb;have HN:=Hz hm;have HE:=Hz hE;have IH:=Hz ih;clear h hm hE ih;go_enter func152,ntmps152;go_wp2_with fail;have f0:Fr [] w (w.alloc (.cells #[vI 0,vI 0,vE,vI 0,vE,vZ,vZ,vZ] 27)):=(Fr.refl [] w).alloc _;have g0:=Ab w (.cells #[vI 0,vI 0,vE,vI 0,vE,vZ,vZ,vZ] 27)
 generalize w.alloc (.cells #[vI 0,vI 0,vE,vI 0,vE,vZ,vZ,vZ] 27)=w1 at *
 generalize hB:w.heap.size=B at *
 have hB1:=Aa g0;have nP:¬ P=B:=by omega
 have nB:¬ B=P:=by omega
 have ng:¬ g=B:=by omega
 refine(Bd P g c ts st t ht w1 (H.out.fr f0) HE.out).mono ?_;rintro e x3 ⟨rfl,f3⟩;have hTB:=Aa (f3.keep g0 nE);have h3:=H.out.fr (f0.trans f3);have hP3:=Aa h3.blk;have q3:=Ab x3 (.cells #[vI t.k,vI t.at',.string ⟨t.text.toArray⟩,vI t.n] 46);have fb4:Fr [] x3 (x3.alloc (.cells #[vI t.k,vI t.at',.string ⟨t.text.toArray⟩,vI t.n] 46)):=(Fr.refl [] x3).alloc _;have f4:=(f0.trans f3).trans fb4;have g0:=(f3.trans fb4).keep g0 nE;have h4:=H.out.fr f4;obtain⟨p0,p1,p2,_⟩:=C2 h3.blk;have hT4:=Aa q3;clear h3 fb4;have HT:=Hz ht;have hok:=HOK.out;have hk:=HK.out;have hk3:=HK3.out;rw[hok] at p2;have hk0:t.k≠0:=by have:=beq_iff_eq.1 hk;omega
 have cx:=fun w h=>Hz (Ch P g c ts st t ht hok hk0 w h HE.out)
 clear hok hk0 ht;go_wp2_with fail;refine(cc _).out.mono ?_;rintro e y4 ⟨rfl,rfl⟩;have hcn:=HC.out;go_wp2_with fail;clear p0 p1 p2 hk hk3
 generalize x3.alloc (.cells #[vI t.k,vI t.at',.string ⟨t.text.toArray⟩,vI t.n] 46)=x4 at *
 generalize x3.heap.size=T3 at *
 refine(cx x4 h4).out.mono ?_;rintro e x5 ⟨rfl,h5,f5⟩;have g0:=f5.keep g0 (by simpa using nB);have q3:=f5.keep q3 (by simp;omega);have hs5:=f5.size;have F5:Fr [P] w x5:=(f4.mono (fun x hx=>by cases hx)).trans f5;obtain⟨m0,m1,m2,m3,_⟩:=Am q3;clear cx f4 f0 f3 f5;go_wp2_with fail;refine(Gj _ t _ _ _ _).mono ?_;rintro e x6 ⟨rfl,f6⟩;go_wp2_with fail;have hTT:=Aa (f6.keep g0 nE);have hP6:=Aa ((h5.fr f6).blk);have q6:=Ab x6 (.cells #[vI 19,vI t.at',vE,vI cn,vE,vZ,vZ,vZ] 27);have fb6:Fr [] x6 (x6.alloc (.cells #[vI 19,vI t.at',vE,vI cn,vE,vZ,vZ,vZ] 27)):=(Fr.refl [] x6).alloc _;have g0:=(f6.trans fb6).keep g0 nE;have h7:=h5.fr (f6.trans fb6);have F7:=F5.trans0 (f6.trans fb6)
 generalize x6.alloc (.cells #[vI 19,vI t.at',vE,vI cn,vE,vZ,vZ,vZ] 27)=x7 at *
 have hT6:=Aa q6
 generalize x6.heap.size=T6 at *
 obtain⟨i0,hi,hz0,hz1,hz2⟩:=info_parts Ef;have HI:=Hz hi;have HZ0:=Hz hz0;have HZ1:=Hz hz1;have HZ2:=Hz hz2;have HR0:Hid (∀ x st',Run ts (body (.opL cn t.at' cm [])) ⟨st.i+1,st.ok⟩ (.e x) st'→Run ts (body .app) st (.e x) st'):=Hz (fun x st' h => .look HT.out (by rw[HOK.out,HK3.out,HK.out,HCALL.out];simp[HC.out];exact .adv (.callE h .retE)));clear m0 m1 m2 m3 hi hz0 hz1 hz2 fb6 f6 q3 cc
 go_loopw [54] (fun iv wr=>∃ (j:Nat) (acc:List Ah) (v6:Value) (c6:Nat→List Value) (st0:St),iv=vI j∧j≤cm∧acc.length=j∧Fr [P] w wr∧wr.heap[B]?=some (.cells #[vI 0,vI 0,vE,vI 0,vE,vZ,vZ,vZ] 27 (0,0))∧T6<wr.heap.size∧wr.heap[T6]?=some (.cells #[vI 19,vI t.at',vE,vI cn,vE,vZ,v6,vZ] 27 (0,0))∧Lu wr (fun b=>B<b∧¬ b=T6∧¬ b=P) v6 acc c6∧PSt P g c ts st0 wr∧st.i+1≤st0.i∧Hid (∀ x st',Run ts (body (.opL cn t.at' (cm-j) acc)) st0 (.e x) st'→Run ts (body .app) st (.e x) st')) (fun iv wr=>cm-(intOf iv).toNat)
 case atStart=>exact⟨0,[],vZ,fun _=>[],_,rfl,by omega,rfl,F7,g0,hT6,q6,Aj.nil_,h7,by simp,HR0⟩
 case round =>
  obtain⟨j,acc,v6,c6,st0,rfl,hj,hlen,F,g0,hT,q0,hrow,h0,hle0,HR⟩:=hrel;clear q6 h7 F7 hT6 HR0 F5 h5 h4 hs5;have hcm:=HCM.out;have HL:=Hz hlen;by_cases hlt:j<cm
  ·have cS:=fun W hW=>Hz (IH.out.post P g c st0 W hW (by have:=HN.out;have:=h0.inb;omega))
   obtain⟨⟨l0,l1,l2,l3,l4,l5,l6,l7⟩,_⟩:=Ac q0;have HROW:=Hz hrow;have HH0:=Hz h0;have nTP:¬ T6=P:=by omega
   have nBT:B<T6:=by omega
   clear hrow hlen;go_wp2_with fail;refine Au (fun w'=>w'.cell? ⟨T6,6,none⟩=some v6) (by kernel_rfl) (by kernel_rfl) ?hS0 (fun K hK hHeld=>?hr0)
   case hS0=>go_keep
   refine Ae (i:=0) (v:=?v1) rfl (by kernel_rfl) (by kernel_rfl) (by kernel_rfl) (fun _ _ _ h=>h) (Or.inl ⟨by rfl,?hy1⟩) (by assumption) ?hr1
   case hy1 =>
    intro w' hSw
    (try dsimp only at hSw)
    go_simp
    (try with_reducible rfl)
   (try simp only[Act.put,sX])
   refine Ae (i:=1) (v:=?v2) rfl (by kernel_rfl) (by kernel_rfl) (by kernel_rfl) (fun _ _ _ h=>h) (Or.inl ⟨by rfl,?hy2⟩) (by assumption) ?hr2
   case hy2 =>
    intro w' hSw
    (try dsimp only at hSw)
    go_simp
    (try with_reducible rfl)
   (try simp only[Act.put,sX])
   refine Ae (i:=2) (v:=?v3) rfl (by kernel_rfl) (by kernel_rfl) (by kernel_rfl) (fun _ _ _ h=>h) (Or.inl ⟨by rfl,?hy3⟩) (by assumption) ?hr3
   case hy3 =>
    intro w' hSw
    (try dsimp only at hSw)
    go_simp
    (try with_reducible rfl)
   (try simp only[Act.put,sX])
   refine Ak (i:=3) rfl (by kernel_rfl) (fun K3 hK3=>?hr4);go_simp;refine(cS _ (HH0.out.fr (Fr.refl [] wr).drew)).out.mono ?_;rintro e x8 ⟨k2,a2,nm2,n2,s2,ls2,args2,arms2,A52,n52,c52,A62,n62,c62,A72,n72,c72,st2,rfl,hx2,hr2,hst2,f8⟩;have Q8:=f8.keep (w:=wr.drew) q0 (by simpa using nTP);have hT8:=Aa Q8;obtain⟨⟨u0,u1,u2,u3,u4,u5,u6,u7⟩,z0,z1,z2,z3,z4,z5,z6,z7⟩:=Ac Q8;have ROW9:=Aj.keep (w':=x8.alloc (.cells #[vI k2,vI a2,vS nm2,vI n2,vS s2,.slice A52 n52 c52,.slice A62 n62 c62,.slice A72 n72 c72] 27)) (ok':=fun b=>B<b∧¬ b=T6∧¬ b=P) Al HROW.out (Sh.of_fr (((Fr.refl [P] wr).drew.trans f8).alloc _) (fun b hb hlt=>⟨hb,by simpa using hb.2.2⟩));go_simp;refine hK3.out _ _ ?hS4 (fun hHeld=>?hq4)
   case hS4=>exact u6
   clear hK3 K3
   (try simp only[Act.put,sX])
   refine Ak (i:=4) rfl (by kernel_rfl) (fun K4 hK4=>?hr5);go_simp;refine hK4.out _ _ ?hS5 (fun hHeld=>?hq5)
   case hS5=>exact Af (Ad Q8 _) 6
   clear hK4 K4
   (try simp only[Act.put,sX])
   refine Ak (i:=5) rfl (by kernel_rfl) (fun K5 hK5=>?hr6);refine Az (by rfl) _ _ 24 (by rfl) 27 i0 _ 8 128 underlying24 HI.out HZ0.out HZ1.out HZ2.out rfl (by decide) v6 acc.length (Cc c6 acc.length) (by rfl) ROW9.own ⟨x8.heap.size,0,none⟩ 1 1 [vI k2,vI a2,vS nm2,vI n2,vS s2,.slice A52 n52 c52,.slice A62 n62 c62,.slice A72 n72 c72] (by rfl) rfl (World.news_of_block (Ab x8 _)) (by simp[Value.oneCell']) (by simp only[maxLen];have:=HL.out;have:=HCM.out;omega) (by have:=HL.out;have:=HCM.out;omega) ?_;intro v9 w9 hown9 hgrow9 hfp9;obtain⟨g9,cp9,rfl⟩:=B9 hown9;have Q9:=(hgrow9.block T6 (Aa (Ad Q8 (.cells #[vI k2,vI a2,vS nm2,vI n2,vS s2,.slice A52 n52 c52,.slice A62 n62 c62,.slice A72 n72 c72] 27))) (fun e=>(HROW.out.blk T6 e.symm).2.1 rfl)).trans (Ad Q8 (.cells #[vI k2,vI a2,vS nm2,vI n2,vS s2,.slice A52 n52 c52,.slice A62 n62 c62,.slice A72 n72 c72] 27));have hT9:=Aa Q9;clear u0 u1 u2 u3 u4 u5 u6 u7 z0 z1 z2 z3 z4 z5 z6 z7;obtain⟨⟨u0,u1,u2,u3,u4,u5,u6,u7⟩,z0,z1,z2,z3,z4,z5,z6,z7⟩:=Ac Q9;refine hK5.out _ _ ?hS6 (fun hHeld=>?hq6)
   case hS6=>exact u6
   clear hK5 K5
   (try simp only[Act.put,sX])
   refine Ae (i:=6) (v:=?v7) rfl (by kernel_rfl) (by kernel_rfl) (by kernel_rfl) (fun _ _ _ h=>h) (Or.inl ⟨by rfl,?hy7⟩) (by assumption) ?hr7
   case hy7 =>
    intro w' hSw
    (try dsimp only at hSw)
    go_simp
    (try with_reducible rfl)
   (try simp only[Act.put,sX])
   refine wpAnyH_done (by kernel_rfl) ?hr8 _;refine As rfl ?hq8;go_simp;refine hK.out _ _ ?hs8;clear hK K
   all_goals
    clear u0 u1 u2 u3 u4 u5 u6 u7 z0 z1 z2 z3 z4 z5 z6 z7 l0 l1 l2 l3 l4 l5 l6 l7;have f8:Fr [P] wr x8:=((Fr.refl [P] wr).drew).trans f8;have hs8:=f8.size;have hBT:=Aa g0;have blk:=HROW.out.blk;have olt:∀ gg,v6.ownBlock=some gg→gg<wr.heap.size:=fun gg hg=>HROW.out.own_lt gg hg
    have hxa:=hx2.keep (w':=x8.alloc (.cells #[vI k2,vI a2,vS nm2,vI n2,vS s2,.slice A52 n52 c52,.slice A62 n62 c62,.slice A72 n72 c72] 27)) (ok':=fun b=>wr.heap.size≤b∧b<x8.heap.size) (Sh.of_fr ((Fr.refl [] x8).alloc _) (fun b hb hlt=>⟨⟨hb,hlt⟩,fun x=>by cases x⟩));have row9:=Aj.app Al ROW9 hxa rfl (fun b hb hlt=>⟨⟨by omega,by omega,by omega⟩,fun e=>by have:=olt b e;omega⟩) hown9 hgrow9 hfp9 (fun b hb=>by simp only[World.size_alloc] at hb;exact⟨by omega,by omega,by omega⟩);have fg:Fr v6.ownBlock.toList (x8.alloc (.cells #[vI k2,vI a2,vS nm2,vI n2,vS s2,.slice A52 n52 c52,.slice A62 n62 c62,.slice A72 n72 c72] 27)) w9:=(Fr.refl _ _).append hgrow9 (fun gg hg => .inl (by simp[hg]));have fa:Fr [] x8 (x8.alloc (.cells #[vI k2,vI a2,vS nm2,vI n2,vS s2,.slice A52 n52 c52,.slice A62 n62 c62,.slice A72 n72 c72] 27)):=(Fr.refl [] x8).alloc _;have nb:∀ b,¬ (B<b∧¬ b=T6∧¬ b=P)→b ∉ v6.ownBlock.toList:=fun b hb hm=>hb (blk b (by simpa using hm))
    have g9':=fg.keep (fa.keep (f8.keep g0 (by simpa using nB)) nE) (nb B (by omega));have h9:=(hst2.fr fa).frL fg (nb P (by simp)) (nb g (by omega));have F9:Fr [P] w w9:=((F.trans f8).trans0 fa).append hgrow9 (fun gg hg => .inr (by have:=(blk gg hg).1;omega));have fs:=(Fr.refl [T6] w9).setCell (p:=⟨T6,6,none⟩) (.inl (by simp)) (.slice (some ⟨g9,0,none⟩) (acc.length+1) cp9);have Q10:(w9.setCell ⟨T6,6,none⟩ (.slice (some ⟨g9,0,none⟩) (acc.length+1) cp9)).heap[T6]?=some (.cells #[vI 19,vI t.at',vE,vI cn,vE,vZ,.slice (some ⟨g9,0,none⟩) (acc.length+1) cp9,vZ] 27 (0,0)):=Bi Q9 6 _;have g10:=fs.keep g9' (by simp;omega);have h10:=h9.frL fs (by simp;omega) (by simp;omega);have F10:=F9.step fs (fun x hx => .inr (by simp at hx;omega));have row10:=Aj.keep (ok':=fun b=>B<b∧¬ b=T6∧¬ b=P) Al row9 (Sh.of_fr fs (fun b hb hlt=>⟨hb,by simp;exact hb.2.1⟩));have hT10:=Aa Q10;have hle2:=hr2.le;have HF:=Hz F10;have HRW:=Hz row10;have HP10:=Hz h10
    have HR10:Hid (∀ x st',Run ts (body (.opL cn t.at' (cm-(j+1)) (acc++[(.mk k2 a2 nm2 n2 s2 ls2 args2 arms2)]))) st2 (.e x) st'→Run ts (body .app) st (.e x) st'):=Hz (fun x st' h=>HR.out _ _ (by
     have e:cm-j=(cm-(j+1))+1:=by omega
     rw[e]
     exact .callE hr2 (.callE h .retE)))
    clear F10 row10 h10 h9 F9 row9 fg fa fs g9' ROW9 hown9 hgrow9 hfp9 hxa Q9 Q8 blk olt nb;go_wp2_with fail
    go_roundw
    case rel=>exact⟨j+1,acc++[(.mk k2 a2 nm2 n2 s2 ls2 args2 arms2)],_,_,st2,by simp,by omega,by simp;exact HL.out,HF.out,g10,hT10,Q10,HRW.out,HP10.out,by omega,HR10⟩
    case measure=>simp[intOf];omega
  ·have ej:j=cm:=by omega
   subst ej
   have hform:∃ A6 n6 cc6,v6 = .slice A6 n6 cc6:=by
    rcases hrow.own.2 with⟨hv,_⟩| ⟨g',cap,cur,hv,_⟩
    ·exact⟨_,_,_,hv⟩
    ·exact⟨_,_,_,hv⟩
   obtain⟨A6,n6,cc6,rfl⟩:=hform;have hBT:=Aa g0;have row0:=Aj.keep (ok':=fun b=>B<b) Al hrow (Sh.of_fr (Fr.refl [] wr) (fun b hb hlt=>⟨hb.1,fun x=>by cases x⟩));obtain⟨⟨l0,l1,l2,l3,l4,l5,l6,l7⟩,_⟩:=Ac q0;obtain⟨⟨u0,u1,u2,u3,u4,u5,u6,u7⟩,z0,z1,z2,z3,z4,z5,z6,z7⟩:=Ac g0;have HRN:=HR;clear hlen HR;have HG:=Hz (An g0 (vI 19) (vI t.at') (vE) (vI cn) (vE) (vZ) (.slice A6 n6 cc6) (vZ));have HF:=Hz ((F).step (Ag wr B (vI 19) (vI t.at') (vE) (vI cn) (vE) (vZ) (.slice A6 n6 cc6) (vZ)) (fun x hx => .inr (by simp at hx;omega)));have HP:=Hz ((h0).frL (Ag wr B (vI 19) (vI t.at') (vE) (vI cn) (vE) (vZ) (.slice A6 n6 cc6) (vZ)) (by simpa using nP) (by simpa using ng));have HR:=Hz (Aj.keep (ok':=fun b=>B≤b) Al row0 (Sh.of_fr (Ag wr B (vI 19) (vI t.at') (vE) (vI cn) (vE) (vZ) (.slice A6 n6 cc6) (vZ)) (fun b hb hlt=>⟨by omega,by simp;omega⟩)));unfold st8 at HG HF HP HR;go_wp2_with fail;generalize (((((((wr.setCell ⟨B,0,none⟩ (vI 19)).setCell ⟨B,1,none⟩ (vI t.at')).setCell ⟨B,2,none⟩ (vE)).setCell ⟨B,3,none⟩ (vI cn)).setCell ⟨B,4,none⟩ (vE)).setCell ⟨B,5,none⟩ (vZ)).setCell ⟨B,6,none⟩ (.slice A6 n6 cc6)).setCell ⟨B,7,none⟩ (vZ)=Z at HG HF HP HR ⊢;obtain⟨⟨d0,d1,d2,d3,d4,d5,d6,d7⟩,_⟩:=Ac HG.out;have hxx:=Ai.of_rows (k:=19) (a:=t.at') (nm:=[]) (n:=cn) (s:=[]) (c5:=fun _=>[]) (c7:=fun _=>[]) Aj.nil_ HR.out Aj.nil_;refine bodyPost_ret (v:=.agg #[vI 19,vI t.at',vE,vI cn,vE,vZ,.slice A6 n6 cc6,vZ]) ?_ rfl ?_
   ·simp[results,Tryz.f152,go_sem,d0,d1,d2,d3,d4,d5,d6,d7]
   ·exact⟨_,_,_,_,_,_,_,_,_,_,_,_,_,_,_,_,_,_,rfl,by rw[hB];exact hxx,HRN.out _ _ (by rw[Nat.sub_self];exact .retE),HP.out,HF.out⟩
theorem Ku(ts:List Tok)(hE:Be ts)(N:Nat)(ih:Dp ts N)(P g c:Nat)(st:St)(w:World)(h:PSt P g c ts st w)(hm:16 *(ts.length-st.i)+5<N+1)(t:Tok)(ht:ts[st.i]?=some t)(hc:st.ok=false∨st.ok=true∧((t.k==3)=false∧(t.k==6)=false∨(t.k==3)=false∧(t.k==6)=true∧¬ 0<(Bg t.text).1)):Calls prog 152 #[.pointer (some ⟨P,0,none⟩)] w (Fl P g c ts st (body .app) w):=by
 have HKEY:Hid (∀ y st1 x st',Run ts (body .post) st (.e y) st1→Run ts (body (.appL y)) st1 (.e x) st'→Run ts (body .app) st (.e x) st'):=Hz (fun y st1 x st' hr1 h => .look ht (by
  rcases hc with hok|⟨hok,⟨hk3,hk6⟩| ⟨hk3,hk6,hcn⟩⟩
  ·rw[hok,if_neg (by simp),if_neg (by simp)];exact(.callE hr1 (.callE h .retE))
  ·rw[hk3,hk6,if_neg (by simp),if_neg (by simp)];exact(.callE hr1 (.callE h .retE))
  ·rw[hk3,if_neg (by simp),if_neg (by simp[hcn])];exact(.callE hr1 (.callE h .retE))))
 have HC:=Hz hc;have cc:=fun w=>Hz (Jf t.text w)
 generalize hcall:Bg t.text=cnm at *
 obtain⟨cn,cm⟩:=cnm;simp only at HC;clear hcall hc;have H:=Hz h;have hP:=Aa h.blk;have hgl:=h.lt;have hin:=h.inb;have HN:=Hz hm;have HE:=Hz hE;have IH:=Hz ih;clear h hm hE ih;go_enter func152,ntmps152;go_wp2_with fail;have f0:Fr [] w (w.alloc (.cells #[vI 0,vI 0,vE,vI 0,vE,vZ,vZ,vZ] 27)):=(Fr.refl [] w).alloc _;have g0:=Ab w (.cells #[vI 0,vI 0,vE,vI 0,vE,vZ,vZ,vZ] 27)
 generalize w.alloc (.cells #[vI 0,vI 0,vE,vI 0,vE,vZ,vZ,vZ] 27)=w1 at *
 generalize hB:w.heap.size=B at *
 have hB1:=Aa g0;have nP:¬ P=B:=by omega
 have nB:¬ B=P:=by omega
 have ng:¬ g=B:=by omega
 refine(Bd P g c ts st t ht w1 (H.out.fr f0) HE.out).mono ?_;rintro e x3 ⟨rfl,f3⟩;have hTB:=Aa (f3.keep g0 nE);have h3:=H.out.fr (f0.trans f3);have hP3:=Aa h3.blk;have q3:=Ab x3 (.cells #[vI t.k,vI t.at',.string ⟨t.text.toArray⟩,vI t.n] 46);have fb4:Fr [] x3 (x3.alloc (.cells #[vI t.k,vI t.at',.string ⟨t.text.toArray⟩,vI t.n] 46)):=(Fr.refl [] x3).alloc _;have f4:=(f0.trans f3).trans fb4;have g0:=(f3.trans fb4).keep g0 nE;have h4:=H.out.fr f4;obtain⟨p0,p1,p2,_⟩:=C2 h3.blk;have hT4:=Aa q3;clear h3 fb4;have HT:=Hz ht
 rcases HC.out with hok|⟨hok,⟨hk3,hk6⟩| ⟨hk3,hk6,hcn⟩⟩
 all_goals
  clear HC;clear ht;rw[hok] at p2;clear hok;go_wp2_with fail;refine(cc _).out.mono ?_;rintro e y4 ⟨rfl,rfl⟩;go_wp2_with fail;clear p0 p1 p2
  try clear hcn
  try clear hk3 hk6
  generalize x3.alloc (.cells #[vI t.k,vI t.at',.string ⟨t.text.toArray⟩,vI t.n] 46)=x4 at *
  generalize x3.heap.size=TT at *
  have hs5:=Aa g0;refine(IH.out.post P g c st x4 h4 (by have:=HN.out;omega)).mono ?_;rintro e x1 ⟨k1,a1,nm1,n1,s1,ls1,args1,arms1,A51,n51,c51,A61,n61,c61,A71,n71,c71,st1,rfl,hx1,hr1,hst1,f1⟩;have g0:=f1.keep g0 (by simpa using nB);have hGx:=g0;have hs1:=f1.size;have F1:Fr [P] w x1:=(f4.mono (fun x hx=>by cases hx)).trans f1;have hle:=hr1.le;clear q3 hT4 f4 h4 cc;go_wp2_with fail;have q1:=Ab x1 (.cells #[vI k1,vI a1,vS nm1,vI n1,vS s1,.slice A51 n51 c51,.slice A61 n61 c61,.slice A71 n71 c71] 27);have fb1:Fr [] x1 (x1.alloc (.cells #[vI k1,vI a1,vS nm1,vI n1,vS s1,.slice A51 n51 c51,.slice A61 n61 c61,.slice A71 n71 c71] 27)):=(Fr.refl [] x1).alloc _
  generalize hY1:x1.alloc (.cells #[vI k1,vI a1,vS nm1,vI n1,vS s1,.slice A51 n51 c51,.slice A61 n61 c61,.slice A71 n71 c71] 27)=x2 at *
  have hT1:=Aa q1
  generalize hTT1:x1.heap.size=T7 at *
  have g0:=fb1.keep g0 nE;have h2:=hst1.fr fb1;have F2:=F1.trans0 fb1;have hx1:=hx1.keep (ok':=fun b=>B<b∧¬ b=T7∧¬ b=P) (Sh.of_fr fb1 (fun b hb hlt=>⟨⟨by omega,by omega,by omega⟩,fun x=>by cases x⟩));have HR0:Hid (∀ x st',Run ts (body (.appL (.mk k1 a1 nm1 n1 s1 ls1 args1 arms1))) st1 (.e x) st'→Run ts (body .app) st (.e x) st'):=Hz (fun x st' h=>HKEY.out _ _ x st' hr1 h);have hBT:B<T7:=by have:=Aa hGx;omega
  clear hst1 hr1 HKEY fb1 f1 F1 hs1 H hGx
  go_loopw [] (fun wr=>∃ (k0 a0:Int) (nm0:LB) (n0:Int) (s0:LB) (ls0:List LB) (args0:List Ah) (arms0:List (Av×Ah)) (A50:Option Addr) (n50 c50:Nat) (A60:Option Addr) (n60 c60:Nat) (A70:Option Addr) (n70 c70:Nat) (st0:St),Fr [P] w wr∧B<T7∧T7<wr.heap.size∧wr.heap[B]?=some (.cells #[vI 0,vI 0,vE,vI 0,vE,vZ,vZ,vZ] 27 (0,0))∧wr.heap[T7]?=some (.cells #[vI k0,vI a0,vS nm0,vI n0,vS s0,.slice A50 n50 c50,.slice A60 n60 c60,.slice A70 n70 c70] 27 (0,0))∧Ai wr (fun b=>B<b∧¬ b=T7∧¬ b=P) (.mk k0 a0 nm0 n0 s0 ls0 args0 arms0) [vI k0,vI a0,vS nm0,vI n0,vS s0,.slice A50 n50 c50,.slice A60 n60 c60,.slice A70 n70 c70]∧PSt P g c ts st0 wr∧st.i≤st0.i∧Hid (∀ x st',Run ts (body (.appL (.mk k0 a0 nm0 n0 s0 ls0 args0 arms0))) st0 (.e x) st'→Run ts (body .app) st (.e x) st')) (fun wr=>ts.length-plI wr P)
  case atStart=>exact⟨k1,a1,nm1,n1,s1,ls1,args1,arms1,A51,n51,c51,A61,n61,c61,A71,n71,c71,st1,F2,hBT,hT1,g0,q1,hx1,h2,hle,HR0⟩
  case round =>
   obtain⟨k0,a0,nm0,n0,s0,ls0,args0,arms0,A50,n50,c50,A60,n60,c60,A70,n70,c70,st0,F,_,hT,g0,q0,hx0,h0,hle0,HR⟩:=hrel;clear hx1 h2 HR0 q1 F2 hle hT1;obtain⟨u,hu⟩:=At h0.inb;have ci:=fun w h=>Hz (Jc P g c ts st0 u hu w h HE.out)
   cases hc:Bu u st0.ok with
   | false =>
    rw[hc] at ci;go_wp2_with fail;refine(ci _ h0).out.mono ?_;rintro e y1 ⟨rfl,f1⟩;have g0:=f1.keep g0 nE;obtain⟨⟨l0,l1,l2,l3,l4,l5,l6,l7⟩,_⟩:=Ac (f1.keep q0 nE);have hx0:=hx0.keep (ok':=fun b=>B<b) (Sh.of_fr f1 (fun b hb hlt=>⟨hb.1,fun x=>by cases x⟩));have HG:=Hz (An g0 (vI k0) (vI a0) (vS nm0) (vI n0) (vS s0) (.slice A50 n50 c50) (.slice A60 n60 c60) (.slice A70 n70 c70));have HF:=Hz ((F.trans0 f1).step (Ag y1 B (vI k0) (vI a0) (vS nm0) (vI n0) (vS s0) (.slice A50 n50 c50) (.slice A60 n60 c60) (.slice A70 n70 c70)) (fun x hx => .inr (by simp at hx;omega)));have HP:=Hz (((h0.fr f1)).frL (Ag y1 B (vI k0) (vI a0) (vS nm0) (vI n0) (vS s0) (.slice A50 n50 c50) (.slice A60 n60 c60) (.slice A70 n70 c70)) (by simpa using nP) (by simpa using ng));have HX:Hid (Ai (st8 y1 B (vI k0) (vI a0) (vS nm0) (vI n0) (vS s0) (.slice A50 n50 c50) (.slice A60 n60 c60) (.slice A70 n70 c70)) (fun b=>B≤b) (.mk k0 a0 nm0 n0 s0 ls0 args0 arms0) [vI k0,vI a0,vS nm0,vI n0,vS s0,.slice A50 n50 c50,.slice A60 n60 c60,.slice A70 n70 c70]):=Hz ((hx0).keep (Sh.of_fr (Ag y1 B (vI k0) (vI a0) (vS nm0) (vI n0) (vS s0) (.slice A50 n50 c50) (.slice A60 n60 c60) (.slice A70 n70 c70)) (fun b hb hlt=>⟨by omega,by simp;omega⟩)));unfold st8 at HG HF HP HX;obtain⟨⟨u0,u1,u2,u3,u4,u5,u6,u7⟩,z0,z1,z2,z3,z4,z5,z6,z7⟩:=Ac g0;go_wp2_with fail;generalize (((((((y1.setCell ⟨B,0,none⟩ (vI k0)).setCell ⟨B,1,none⟩ (vI a0)).setCell ⟨B,2,none⟩ (vS nm0)).setCell ⟨B,3,none⟩ (vI n0)).setCell ⟨B,4,none⟩ (vS s0)).setCell ⟨B,5,none⟩ (.slice A50 n50 c50)).setCell ⟨B,6,none⟩ (.slice A60 n60 c60)).setCell ⟨B,7,none⟩ (.slice A70 n70 c70)=Z at HG HF HP HX ⊢;obtain⟨⟨d0,d1,d2,d3,d4,d5,d6,d7⟩,_⟩:=Ac HG.out;refine bodyPost_ret (v:=.agg #[vI k0,vI a0,vS nm0,vI n0,vS s0,.slice A50 n50 c50,.slice A60 n60 c60,.slice A70 n70 c70]) ?_ rfl ?_
    ·simp[results,Tryz.f152,go_sem,d0,d1,d2,d3,d4,d5,d6,d7]
    ·exact⟨_,_,_,_,_,_,_,_,_,_,_,_,_,_,_,_,_,_,rfl,by rw[hB];exact HX.out,HR.out _ _ (.look hu (by rw[hc,if_neg (by decide)];exact .retE)),HP.out,HF.out⟩
   | true =>
    rw[hc] at ci;have HK0:=Hz (Jd hc);go_wp2_with fail;refine(ci _ h0).out.mono ?_;rintro e y3 ⟨rfl,f1⟩;go_wp2_with fail;have h3:=h0.fr f1;have g0:=f1.keep g0 nE;have q0:=f1.keep q0 nE;have F3:=F.trans0 f1;have hT7:=Aa q0;have hx0:=hx0.keep (ok':=fun b=>B<b∧¬ b=T7∧¬ b=P∧b<y3.heap.size) (Sh.of_fr f1 (fun b hb hlt=>⟨⟨hb.1,hb.2.1,hb.2.2,by have:=f1.size;omega⟩,fun x=>by cases x⟩));have cE:=fun W hW=>Hz (IH.out.post P g c st0 W hW (by have:=HN.out;have:=h3.inb;omega))
    obtain⟨⟨l0,l1,l2,l3,l4,l5,l6,l7⟩,_⟩:=Ac q0;clear f1 ci;have HH3:=Hz h3;have HX0:=Hz hx0;clear h3 hx0;refine Au (fun w'=>(w'.cell? ⟨T7,0,none⟩=some (vI k0)∧w'.cell? ⟨T7,1,none⟩=some (vI a0)∧w'.cell? ⟨T7,2,none⟩=some (vS nm0)∧w'.cell? ⟨T7,3,none⟩=some (vI n0)∧w'.cell? ⟨T7,4,none⟩=some (vS s0)∧w'.cell? ⟨T7,5,none⟩=some (.slice A50 n50 c50)∧w'.cell? ⟨T7,6,none⟩=some (.slice A60 n60 c60)∧w'.cell? ⟨T7,7,none⟩=some (.slice A70 n70 c70))) (by kernel_rfl) (by kernel_rfl) ?_ (fun K hK hHeld=>?_)
    ·go_keep
    refine Ae (i:=0) (v:=?_) rfl (by kernel_rfl) (by kernel_rfl) (by kernel_rfl) (fun _ _ _ h=>h) (Or.inl ⟨by rfl,?_⟩) (by assumption) ?_
    rotate_left
    ·intro w' hSw
     (try dsimp only at hSw)
     go_simp
     (try with_reducible rfl)
    (try simp only[Act.put,sX])
    refine Ae (i:=1) (v:=?_) rfl (by kernel_rfl) (by kernel_rfl) (by kernel_rfl) (fun _ _ _ h=>h) (Or.inl ⟨by rfl,?_⟩) (by assumption) ?_
    rotate_left
    ·intro w' hSw
     (try dsimp only at hSw)
     go_simp
     (try with_reducible rfl)
    (try simp only[Act.put,sX])
    refine Ae (i:=2) (v:=?_) rfl (by kernel_rfl) (by kernel_rfl) (by kernel_rfl) (fun _ _ _ h=>h) (Or.inl ⟨by rfl,?_⟩) (by assumption) ?_
    rotate_left
    ·intro w' hSw
     (try dsimp only at hSw)
     go_simp
     (try with_reducible rfl)
    (try simp only[Act.put,sX])
    refine Ae (i:=3) (v:=?_) rfl (by kernel_rfl) (by kernel_rfl) (by kernel_rfl) (fun _ _ _ h=>h) (Or.inl ⟨by rfl,?_⟩) (by assumption) ?_
    rotate_left
    ·intro w' hSw
     (try dsimp only at hSw)
     go_simp
     (try with_reducible rfl)
    (try simp only[Act.put,sX])
    refine Ak (i:=4) rfl (by kernel_rfl) (fun K4 hK4=>?_);go_simp;refine(cE _ (HH3.out.fr (Fr.refl [] y3).drew)).out.mono ?_;rintro e y4 ⟨k2,a2,nm2,n2,s2,ls2,args2,arms2,A52,n52,c52,A62,n62,c62,A72,n72,c72,st2,rfl,hx2,hr2,hst2,f4⟩;have Q4:=f4.keep (w:=y3.drew) q0 (by simp;omega);have hT44:=Aa Q4;obtain⟨⟨u0,u1,u2,u3,u4,u5,u6,u7⟩,z0,z1,z2,z3,z4,z5,z6,z7⟩:=Ac Q4;go_simp;refine hK4.out _ _ ?_ (fun hHeld=>?_)
    ·exact(Ac Q4).1
    clear hK4 K4
    (try simp only[Act.put,sX])
    refine Ak (i:=5) rfl (by kernel_rfl) (fun K5 hK5=>?_);go_simp;refine hK5.out _ _ ?_ (fun hHeld=>?_)
    ·exact(Ac (Ad Q4 _)).1
    clear hK5 K5
    (try simp only[Act.put,sX])
    refine Ae (i:=6) (v:=?_) rfl (by kernel_rfl) (by kernel_rfl) (by kernel_rfl) (fun _ _ _ h=>h) (Or.inl ⟨by rfl,?_⟩) (by assumption) ?_
    rotate_left
    ·intro w' hSw
     (try dsimp only at hSw)
     go_simp
     (try with_reducible rfl)
    (try simp only[Act.put,sX])
    refine wpAnyH_done (by kernel_rfl) ?_ _;refine As rfl ?_;go_simp;refine hK.out _ _ ?_;clear hK K
    all_goals
     have hx0:=HX0.out;have h3:=HH3.out;clear u0 u1 u2 u3 u4 u5 u6 u7 z0 z1 z2 z3 z4 z5 z6 z7 l0 l1 l2 l3 l4 l5 l6 l7 HX0 HH3;have f4:Fr [P] y3 y4:=((Fr.refl [P] y3).drew).trans f4;have hs4:=f4.size;have hx0:=hx0.keep (ok':=fun b=>B<b∧¬ b=T7∧¬ b=P) (Sh.of_fr f4 (fun b hb hlt=>⟨⟨hb.1,hb.2.1,hb.2.2.1⟩,by simp;omega⟩));have hx2:=hx2.keep (ok':=fun b=>B<b∧¬ b=T7∧¬ b=P) (Sh.of_fr (Fr.refl [] y4) (fun b hb hlt=>⟨by have:y3.heap.size≤b:=hb;exact⟨by omega,by omega,by omega⟩,fun x=>by cases x⟩));have g0:=f4.keep g0 (by simpa using nB);have hne4:¬ B=T7:=by omega
     have hle2:=hr2.le;have HG:=Hz (An Q4 (vI 8) (vI a0) (vE) (vI 0) (vE) (vZ) (.slice (some ⟨y4.heap.size,0,none⟩) 2 2) (vZ));have HB0:=Hz ((Ag y4 T7 (vI 8) (vI a0) (vE) (vI 0) (vE) (vZ) (.slice (some ⟨y4.heap.size,0,none⟩) 2 2) (vZ)).keep g0 (by simp;omega));have HF:=Hz ((F3.trans f4).step (Ag y4 T7 (vI 8) (vI a0) (vE) (vI 0) (vE) (vZ) (.slice (some ⟨y4.heap.size,0,none⟩) 2 2) (vZ)) (fun x hx => .inr (by simp at hx;omega)));have HP:=Hz ((hst2).frL (Ag y4 T7 (vI 8) (vI a0) (vE) (vI 0) (vE) (vZ) (.slice (some ⟨y4.heap.size,0,none⟩) 2 2) (vZ)) (by simp;omega) (by simp;omega));have HS:=Hz (C5 y4 T7 (vI 8) (vI a0) (vE) (vI 0) (vE) (vZ) (.slice (some ⟨y4.heap.size,0,none⟩) 2 2) (vZ));have HX0:Hid (Ai (st8 y4 T7 (vI 8) (vI a0) (vE) (vI 0) (vE) (vZ) (.slice (some ⟨y4.heap.size,0,none⟩) 2 2) (vZ)) (fun b=>B<b∧¬ b=T7∧¬ b=P) (.mk k0 a0 nm0 n0 s0 ls0 args0 arms0) [vI k0,vI a0,vS nm0,vI n0,vS s0,.slice A50 n50 c50,.slice A60 n60 c60,.slice A70 n70 c70]):=Hz ((hx0).keep (Sh.of_fr (Ag y4 T7 (vI 8) (vI a0) (vE) (vI 0) (vE) (vZ) (.slice (some ⟨y4.heap.size,0,none⟩) 2 2) (vZ)) (fun b hb hlt=>⟨hb,by simp;exact hb.2.1⟩)));have HX2:Hid (Ai (st8 y4 T7 (vI 8) (vI a0) (vE) (vI 0) (vE) (vZ) (.slice (some ⟨y4.heap.size,0,none⟩) 2 2) (vZ)) (fun b=>B<b∧¬ b=T7∧¬ b=P) (.mk k2 a2 nm2 n2 s2 ls2 args2 arms2) [vI k2,vI a2,vS nm2,vI n2,vS s2,.slice A52 n52 c52,.slice A62 n62 c62,.slice A72 n72 c72]):=Hz ((hx2).keep (Sh.of_fr (Ag y4 T7 (vI 8) (vI a0) (vE) (vI 0) (vE) (vZ) (.slice (some ⟨y4.heap.size,0,none⟩) 2 2) (vZ)) (fun b hb hlt=>⟨hb,by simp;exact hb.2.1⟩)));unfold st8 at HG HB0 HF HP HS HX0 HX2;go_wp2_with fail;generalize (((((((y4.setCell ⟨T7,0,none⟩ (vI 8)).setCell ⟨T7,1,none⟩ (vI a0)).setCell ⟨T7,2,none⟩ (vE)).setCell ⟨T7,3,none⟩ (vI 0)).setCell ⟨T7,4,none⟩ (vE)).setCell ⟨T7,5,none⟩ (vZ)).setCell ⟨T7,6,none⟩ (.slice (some ⟨y4.heap.size,0,none⟩) 2 2)).setCell ⟨T7,7,none⟩ (vZ)=Z at HG HB0 HF HP HS HX0 HX2 ⊢;have hZ4:=Aa HG.out;have row:=Aj.lit2 Al (T:=27) (size:=8) (ok:=fun b=>B<b∧¬ b=T7∧¬ b=P) HX0.out HX2.out rfl rfl (by exact⟨by omega,by omega,by omega⟩);rw[HS.out] at row;have hxx:=Ai.of_rows (k:=8) (a:=a0) (nm:=[]) (n:=0) (s:=[]) (c5:=fun _=>[]) (c7:=fun _=>[]) Aj.nil_ row Aj.nil_;have hPz:=HP.out.fr ((Fr.refl [] Z).alloc (.cells #[vI k0,vI a0,vS nm0,vI n0,vS s0,.slice A50 n50 c50,.slice A60 n60 c60,.slice A70 n70 c70,vI k2,vI a2,vS nm2,vI n2,vS s2,.slice A52 n52 c52,.slice A62 n62 c62,.slice A72 n72 c72] 27));have hpl:=hPz.pl;have hpl0:=h0.pl;have hin0:=h0.inb;have hin2:=hst2.inb;have hgo:st0.i<st2.i:=Nl' (Ll hu hc hr2) (Nr' _)
     go_roundw
     case rel=>exact⟨8,a0,[],0,[],[],[(.mk k0 a0 nm0 n0 s0 ls0 args0 arms0),(.mk k2 a2 nm2 n2 s2 ls2 args2 arms2)],[],none,0,0,some ⟨y4.heap.size,0,none⟩,2,2,none,0,0,st2,HF.out.alloc _,hBT,by simp;omega,Ad HB0.out _,Ad HG.out _,hxx,hPz,by omega,Hz (fun x st' h=>HR.out _ _ (.look hu (by rw[hc,if_pos rfl];exact .callE hr2 (.callE h .retE))))⟩
     case measure=>rw[hpl,hpl0];omega
end
theorem Rb(ts:List Tok)(hE:Be ts)(N:Nat)(ih:Dp ts N):GE ts (N+1) 5 .app 152:=by
 intro P g c st w h hm;obtain⟨t,ht⟩:=At h.inb
 cases hok:st.ok with
 | false=>exact Ku ts hE N ih P g c st w h hm t ht (.inl hok)
 | true =>
  cases hk3:(t.k==3)with
  | true=>exact app_tag ts hE N ih P g c st w h hm t ht hok hk3
  | false =>
   cases hk6:(t.k==6)with
   | false=>exact Ku ts hE N ih P g c st w h hm t ht (.inr ⟨hok,.inl ⟨hk3,hk6⟩⟩)
   | true =>
    by_cases hcn:0<(Bg t.text).1
    ·exact app_op ts hE N ih P g c st w h hm t ht hok hk6 hcn
    ·exact Ku ts hE N ih P g c st w h hm t ht (.inr ⟨hok,.inr ⟨hk3,hk6,hcn⟩⟩)
section
attribute [local go_sem ↓] Go.wp_at_zero Go.wp_at_succ
theorem Mc(ts:List Tok)(hE:Be ts)(N:Nat)(ih:Dp ts N)(P g c:Nat)(st:St)(w:World)(h:PSt P g c ts st w)(hm:16 *(ts.length-st.i)+12<N+1)(t:Tok)(ht:ts[st.i]?=some t)(hb0:isB t st.ok [[108,101,116]]=true)(hr:∀ u,ts[st.i+1]?=some u→isB u st.ok [[114,101,99]]=false):Calls prog 33 #[.pointer (some ⟨P,0,none⟩)] w (Fl P g c ts st (body .item) w):=by
 have HRC:Hid (∀ u,ts[st.i+1]?=some u→isB u st.ok [[114,101,99]]=false):=Hz hr;clear hr;have HB0:=Hz hb0;clear hb0;have H:=Hz h;have hP:=Aa h.blk;have hgl:=h.lt;have hin:=h.inb;have HN:=Hz hm;have HE:=Hz hE;have IH:=Hz ih;clear h hm hE ih;go_enter func33,ntmps33;go_wp2_with fail;have f0:Fr [] w (w.alloc (.cells #[vI 0,vI 0,vE,vI 0,vE,vZ,vZ,vZ] 27)):=(Fr.refl [] w).alloc _;have g0:=Ab w (.cells #[vI 0,vI 0,vE,vI 0,vE,vZ,vZ,vZ] 27)
 generalize w.alloc (.cells #[vI 0,vI 0,vE,vI 0,vE,vZ,vZ,vZ] 27)=w1 at *
 generalize hB:w.heap.size=B at *
 have hB1:=Aa g0;have nP:¬ P=B:=by omega
 have nB:¬ B=P:=by omega
 have ng:¬ g=B:=by omega
 have HT:=Hz ht;refine(Bd P g c ts st t ht w1 (H.out.fr f0) HE.out).mono ?_;rintro e x3 ⟨rfl,f3⟩;go_wp2_with fail;have q3:=Ab x3 (.cells #[vI t.k,vI t.at',.string ⟨t.text.toArray⟩,vI t.n] 46);have fb4:Fr [] x3 (x3.alloc (.cells #[vI t.k,vI t.at',.string ⟨t.text.toArray⟩,vI t.n] 46)):=(Fr.refl [] x3).alloc _
 generalize x3.alloc (.cells #[vI t.k,vI t.at',.string ⟨t.text.toArray⟩,vI t.n] 46)=x4 at *
 have hT4:=Aa q3;have hs3:=f3.size
 generalize x3.heap.size=T3 at *
 have f4:=(f0.trans f3).trans fb4;have g0:=(f3.trans fb4).keep g0 nE;have h4:=H.out.fr f4;have hPB:P<B:=by omega
 have hgB:g<B:=by omega
 have hBw:w.heap.size≤B:=by omega
 have hBT3:B<T3:=by have:=(f0.trans f3).size;have:=Aa g0;omega
 clear f0 f3 fb4;refine(may_yes [108,101,116] P g c ts st t HT.out HB0.out x4 h4 HE.out).mono ?_;rintro e x5 ⟨rfl,h0,f5⟩;have g0:=f5.keep g0 (by simpa using nB);have q3:=f5.keep q3 (by simp;omega);have F:Fr [P] w x5:=(f4.mono (fun x hx=>by cases hx)).trans f5;have hs5:=Aa g0;clear f4 f5 h4 hT4 hs3;obtain⟨m0,m1,m2,m3,_⟩:=Am q3;go_wp2_with fail;have q0:=Ab x5 (.cells #[vI 9,vI t.at',vE,vI 0,vE,vZ,vZ,vZ] 27);have fb:Fr [] x5 (x5.alloc (.cells #[vI 9,vI t.at',vE,vI 0,vE,vZ,vZ,vZ] 27)):=(Fr.refl [] x5).alloc _
 generalize x5.alloc (.cells #[vI 9,vI t.at',vE,vI 0,vE,vZ,vZ,vZ] 27)=x6 at *
 have hBT:B<x5.heap.size:=Aa g0
 generalize x5.heap.size=T at *
 have g0:=fb.keep g0 nE;have h0:=h0.fr fb;have F:=F.trans0 fb;clear fb;clear m0 m1 m2 m3 q3;obtain⟨u,hu⟩:=At h0.inb;refine(may_no [114,101,99] P g c ts ⟨st.i+1,st.ok⟩ u hu (HRC.out u hu) x6 h0 HE.out).mono ?_;rintro e x7 ⟨rfl,fm⟩;have g0:=fm.keep g0 nE;have q0:=fm.keep q0 nE;have F:=F.trans0 fm;have h0:=h0.fr fm;clear fm;go_wp2_with fail;obtain⟨v,hv⟩:=At h0.inb;refine(Fb P g c ts ⟨st.i+1,st.ok⟩ v hv x7 h0 HE.out).mono ?_;rintro e x8 ⟨rfl,h0,fm⟩;have g0:=fm.keep g0 (by simp;omega);have q0:=fm.keep q0 (by simp;omega);have F:=F.trans fm;obtain⟨⟨m0,m1,m2,m3,m4,m5,m6,m7⟩,j0,j1,j2,j3,j4,j5,j6,j7⟩:=Ac q0;have hTx:=Aa q0;have q1:(x8.setCell ⟨T,2,none⟩ (.string ⟨(Aq v ⟨st.i+1,st.ok⟩).toArray⟩)).heap[T]?=some (.cells #[vI 9,vI t.at',.string ⟨(Aq v ⟨st.i+1,st.ok⟩).toArray⟩,vI 0,vE,vZ,vZ,vZ] 27 (0,0)):=Bi q0 2 _;have fs:=(Fr.refl [T] x8).setCell (p:=⟨T,2,none⟩) (.inl (by simp)) (.string ⟨(Aq v ⟨st.i+1,st.ok⟩).toArray⟩);have g0:=fs.keep g0 (by simp;omega);have h0:=h0.frL fs (by simp;omega) (by simp;omega);have F:=F.step fs (fun x hx => .inr (by simp at hx;omega));have HQ:=Hz q1;clear q0 q1 fs;go_wp2_with fail;clear m0 m1 m2 m3 m4 m5 m6 m7 j0 j1 j2 j3 j4 j5 j6 j7;have q0:=HQ.out;clear HQ
 generalize x8.setCell ⟨T,2,none⟩ (.string ⟨(Aq v ⟨st.i+1,st.ok⟩).toArray⟩)=x8n at *
 have row:Lu x8n (fun b=>B<b∧¬ b=T∧¬ b=P) (vZ) ([]:List Ah) (fun _=>[]):=Aj.nil_;obtain⟨p,hp⟩:=At h0.inb;refine(Bc [61] P g c ts (Cd v ⟨st.i+1,st.ok⟩) p hp x8n h0 HE.out).mono ?_;rintro e y0 ⟨rfl,h0,fm⟩;have g0:=fm.keep g0 (by simp;omega);have q0:=fm.keep q0 (by simp;omega);have F:=F.trans fm;have row:=Aj.keep (ok':=fun b=>B<b∧¬ b=T∧¬ b=P) Al row (Sh.of_fr fm (fun b hb hlt=>⟨hb,by simp;exact hb.2.2⟩));clear fm;obtain⟨i0,hi,hz0,hz1,hz2⟩:=info_parts Ef;have HI:=Hz hi;have HZ0:=Hz hz0;have HZ1:=Hz hz1;have HZ2:=Hz hz2;clear hi hz0 hz1 hz2;have hle1:=E0 v ⟨st.i+1,st.ok⟩;have hle2:=B3 p (Cd v ⟨st.i+1,st.ok⟩) [61];simp only at hle1;have cS:=fun W hW=>Hz (IH.out.seq P g c (A4 p (Cd v ⟨st.i+1,st.ok⟩) [61]) W hW (by have:=HN.out;have:=h0.inb;omega))
 obtain⟨⟨l0,l1,l2,l3,l4,l5,l6,l7⟩,_⟩:=Ac q0;have hTwr:=Aa q0;have ROWH:=Hz row;clear row;go_wp2_with fail;refine Au (fun w'=>w'.cell? ⟨T,6,none⟩=some (vZ)) (by kernel_rfl) (by kernel_rfl) ?hS1000 (fun K hK hHeld=>?hr1000)
 case hS1000=>go_keep
 refine Ae (i:=0) (v:=?v1001) rfl (by kernel_rfl) (by kernel_rfl) (by kernel_rfl) (fun _ _ _ h=>h) (Or.inl ⟨by rfl,?hy1001⟩) (by assumption) ?hr1001
 case hy1001 =>
  intro w' hSw
  (try dsimp only at hSw)
  go_simp
  (try with_reducible rfl)
 (try simp only[Act.put,sX])
 refine Ae (i:=1) (v:=?v1002) rfl (by kernel_rfl) (by kernel_rfl) (by kernel_rfl) (fun _ _ _ h=>h) (Or.inl ⟨by rfl,?hy1002⟩) (by assumption) ?hr1002
 case hy1002 =>
  intro w' hSw
  (try dsimp only at hSw)
  go_simp
  (try with_reducible rfl)
 (try simp only[Act.put,sX])
 refine Ae (i:=2) (v:=?v1003) rfl (by kernel_rfl) (by kernel_rfl) (by kernel_rfl) (fun _ _ _ h=>h) (Or.inl ⟨by rfl,?hy1003⟩) (by assumption) ?hr1003
 case hy1003 =>
  intro w' hSw
  (try dsimp only at hSw)
  go_simp
  (try with_reducible rfl)
 (try simp only[Act.put,sX])
 refine Ak (i:=3) rfl (by kernel_rfl) (fun K3 hK3=>?hr1004);go_simp;refine((cS _ (h0.fr (Fr.refl [] y0).drew)).out).mono ?_;rintro e x8 ⟨k1,a1,nm1,n1,s1,ls1,args1,arms1,A51,n51,c51,A61,n61,c61,A71,n71,c71,st5,rfl,hx1,hr1,hst5,f8⟩;have hst:=hst5;have Q8:=f8.keep (w:=y0.drew) q0 (by simp;omega);have hT8:=Aa Q8;have ROW9:=Aj.keep (w':=x8.alloc (.cells #[vI k1,vI a1,vS nm1,vI n1,vS s1,.slice A51 n51 c51,.slice A61 n61 c61,.slice A71 n71 c71] 27)) (ok':=fun b=>B<b∧¬ b=T∧¬ b=P) Al ROWH.out (Sh.of_fr (((Fr.refl [P] y0).drew.trans f8).alloc _) (fun b hb hlt=>⟨hb,by simp;exact hb.2.2⟩));go_simp;refine hK3.out _ _ ?hS1004 (fun hHeld=>?hq1004)
 case hS1004=>exact(Ac Q8).1.2.2.2.2.2.2.1
 clear hK3 K3
 (try simp only[Act.put,sX])
 refine Ak (i:=4) rfl (by kernel_rfl) (fun K4 hK4=>?hr1005);go_simp;refine hK4.out _ _ ?hS1005 (fun hHeld=>?hq1005)
 case hS1005=>exact Af (Ad Q8 _) 6
 clear hK4 K4
 (try simp only[Act.put,sX])
 refine Ak (i:=5) rfl (by kernel_rfl) (fun K5 hK5=>?hr1006);refine Az (by rfl) _ _ 24 (by rfl) 27 i0 _ 8 128 underlying24 HI.out HZ0.out HZ1.out HZ2.out rfl (by decide) (vZ) 0 (Cc (fun _=>[]) 0) (by rfl) ROW9.own ⟨x8.heap.size,0,none⟩ 1 1 [vI k1,vI a1,vS nm1,vI n1,vS s1,.slice A51 n51 c51,.slice A61 n61 c61,.slice A71 n71 c71] (by rfl) rfl (World.news_of_block (Ab x8 _)) (by simp[Value.oneCell']) (by decide) (by decide) ?_;intro v9 w9 hown9 hgrow9 hfp9;obtain⟨g9,cp9,hv9⟩:∃ g cap,v9 = .slice (some ⟨g,0,none⟩) (1) cap:=B9 hown9
 subst hv9;have Q9:=(hgrow9.block T (Aa (Ad Q8 (.cells #[vI k1,vI a1,vS nm1,vI n1,vS s1,.slice A51 n51 c51,.slice A61 n61 c61,.slice A71 n71 c71] 27))) (fun e=>(ROWH.out.blk T e.symm).2.1 rfl)).trans (Ad Q8 (.cells #[vI k1,vI a1,vS nm1,vI n1,vS s1,.slice A51 n51 c51,.slice A61 n61 c61,.slice A71 n71 c71] 27));have hT9:=Aa Q9;obtain⟨⟨u0,u1,u2,u3,u4,u5,u6,u7⟩,z0,z1,z2,z3,z4,z5,z6,z7⟩:=Ac Q9;refine hK5.out _ _ ?hS1006 (fun hHeld=>?hq1006)
 case hS1006=>exact u6
 clear hK5 K5
 (try simp only[Act.put,sX])
 refine Ae (i:=6) (v:=?v1007) rfl (by kernel_rfl) (by kernel_rfl) (by kernel_rfl) (fun _ _ _ h=>h) (Or.inl ⟨by rfl,?hy1007⟩) (by assumption) ?hr1007
 case hy1007 =>
  intro w' hSw
  (try dsimp only at hSw)
  go_simp
  (try with_reducible rfl)
 (try simp only[Act.put,sX])
 refine wpAnyH_done (by kernel_rfl) ?hr1008 _;refine As rfl ?hq1008;go_simp;refine hK.out _ _ ?hs1008;clear hK K;clear l0 l1 l2 l3 l4 l5 l6 l7 u0 u1 u2 u3 u4 u5 u6 u7 z0 z1 z2 z3 z4 z5 z6 z7;have f8:Fr [P] y0 x8:=((Fr.refl [P] y0).drew).trans f8;have row:=ROWH.out;obtain⟨F,g0,q0,h0,row,hsh,hnew,hsz⟩:=Ct (fld:=6) (size:=8) Al f8 hx1 rfl hst g0 q0 row F (by omega) (by omega) (by omega) (by omega) (by omega) (by omega) (by omega) hown9 hgrow9 hfp9 (VV':=#[vI 9,vI t.at',.string ⟨(Aq v ⟨st.i+1,st.ok⟩).toArray⟩,vI 0,vE,vZ,.slice (some ⟨g9,0,none⟩) 1 cp9,vZ]) rfl;clear ROWH ROW9 Q8 Q9 hown9 hgrow9 hfp9 f8 hst hT8 hT9 hTwr
 generalize w9.setCell ⟨T,6,none⟩ (.slice (some ⟨g9,0,none⟩) 1 cp9)=y1 at *
 clear hsh hnew hsz cS;go_wp2_with fail;obtain⟨q,hq⟩:=At h0.inb;refine(Bc [105,110] P g c ts st5 q hq y1 h0 HE.out).mono ?_;rintro e y2 ⟨rfl,h0,fm⟩;have g0:=fm.keep g0 (by simp;omega);have q0:=fm.keep q0 (by simp;omega);have F:=F.trans fm;have row:=Aj.keep (ok':=fun b=>B<b∧¬ b=T∧¬ b=P) Al row (Sh.of_fr fm (fun b hb hlt=>⟨hb,by simp;exact hb.2.2⟩));clear fm;have hle3:=hr1.le;have hle4:=B3 q st5 [105,110];have cS:=fun W hW=>Hz (IH.out.seq P g c (A4 q st5 [105,110]) W hW (by have:=HN.out;have:=h0.inb;omega))
 obtain⟨⟨l0,l1,l2,l3,l4,l5,l6,l7⟩,_⟩:=Ac q0;have hTwr:=Aa q0;have ROWH:=Hz row;clear row;go_wp2_with fail;refine Au (fun w'=>w'.cell? ⟨T,6,none⟩=some (.slice (some ⟨g9,0,none⟩) 1 cp9)) (by kernel_rfl) (by kernel_rfl) ?hS1009 (fun K hK hHeld=>?hr1009)
 case hS1009=>go_keep
 refine Ae (i:=0) (v:=?v1010) rfl (by kernel_rfl) (by kernel_rfl) (by kernel_rfl) (fun _ _ _ h=>h) (Or.inl ⟨by rfl,?hy1010⟩) (by assumption) ?hr1010
 case hy1010 =>
  intro w' hSw
  (try dsimp only at hSw)
  go_simp
  (try with_reducible rfl)
 (try simp only[Act.put,sX])
 refine Ae (i:=1) (v:=?v1011) rfl (by kernel_rfl) (by kernel_rfl) (by kernel_rfl) (fun _ _ _ h=>h) (Or.inl ⟨by rfl,?hy1011⟩) (by assumption) ?hr1011
 case hy1011 =>
  intro w' hSw
  (try dsimp only at hSw)
  go_simp
  (try with_reducible rfl)
 (try simp only[Act.put,sX])
 refine Ae (i:=2) (v:=?v1012) rfl (by kernel_rfl) (by kernel_rfl) (by kernel_rfl) (fun _ _ _ h=>h) (Or.inl ⟨by rfl,?hy1012⟩) (by assumption) ?hr1012
 case hy1012 =>
  intro w' hSw
  (try dsimp only at hSw)
  go_simp
  (try with_reducible rfl)
 (try simp only[Act.put,sX])
 refine Ak (i:=3) rfl (by kernel_rfl) (fun K3 hK3=>?hr1013);go_simp;refine((cS _ (h0.fr (Fr.refl [] y2).drew)).out).mono ?_;rintro e x8 ⟨k2,a2,nm2,n2,s2,ls2,args2,arms2,A52,n52,c52,A62,n62,c62,A72,n72,c72,st7,rfl,hx2,hr2,hst7,f8⟩;have hst:=hst7;have Q8:=f8.keep (w:=y2.drew) q0 (by simp;omega);have hT8:=Aa Q8;have ROW9:=Aj.keep (w':=x8.alloc (.cells #[vI k2,vI a2,vS nm2,vI n2,vS s2,.slice A52 n52 c52,.slice A62 n62 c62,.slice A72 n72 c72] 27)) (ok':=fun b=>B<b∧¬ b=T∧¬ b=P) Al ROWH.out (Sh.of_fr (((Fr.refl [P] y2).drew.trans f8).alloc _) (fun b hb hlt=>⟨hb,by simp;exact hb.2.2⟩));go_simp;refine hK3.out _ _ ?hS1013 (fun hHeld=>?hq1013)
 case hS1013=>exact(Ac Q8).1.2.2.2.2.2.2.1
 clear hK3 K3
 (try simp only[Act.put,sX])
 refine Ak (i:=4) rfl (by kernel_rfl) (fun K4 hK4=>?hr1014);go_simp;refine hK4.out _ _ ?hS1014 (fun hHeld=>?hq1014)
 case hS1014=>exact Af (Ad Q8 _) 6
 clear hK4 K4
 (try simp only[Act.put,sX])
 refine Ak (i:=5) rfl (by kernel_rfl) (fun K5 hK5=>?hr1015);refine Az (by rfl) _ _ 24 (by rfl) 27 i0 _ 8 128 underlying24 HI.out HZ0.out HZ1.out HZ2.out rfl (by decide) (.slice (some ⟨g9,0,none⟩) 1 cp9) 1 (Cc (fun i=>if i=([]:List Ah).length then [vI k1,vI a1,vS nm1,vI n1,vS s1,.slice A51 n51 c51,.slice A61 n61 c61,.slice A71 n71 c71] else []) 1) (by rfl) ROW9.own ⟨x8.heap.size,0,none⟩ 1 1 [vI k2,vI a2,vS nm2,vI n2,vS s2,.slice A52 n52 c52,.slice A62 n62 c62,.slice A72 n72 c72] (by rfl) rfl (World.news_of_block (Ab x8 _)) (by simp[Value.oneCell']) (by decide) (by decide) ?_;intro v9 w9 hown9 hgrow9 hfp9;obtain⟨g8,cp8,hv9⟩:∃ g cap,v9 = .slice (some ⟨g,0,none⟩) (2) cap:=B9 hown9
 subst hv9;have Q9:=(hgrow9.block T (Aa (Ad Q8 (.cells #[vI k2,vI a2,vS nm2,vI n2,vS s2,.slice A52 n52 c52,.slice A62 n62 c62,.slice A72 n72 c72] 27))) (fun e=>(ROWH.out.blk T e.symm).2.1 rfl)).trans (Ad Q8 (.cells #[vI k2,vI a2,vS nm2,vI n2,vS s2,.slice A52 n52 c52,.slice A62 n62 c62,.slice A72 n72 c72] 27));have hT9:=Aa Q9;obtain⟨⟨u0,u1,u2,u3,u4,u5,u6,u7⟩,z0,z1,z2,z3,z4,z5,z6,z7⟩:=Ac Q9;refine hK5.out _ _ ?hS1015 (fun hHeld=>?hq1015)
 case hS1015=>exact u6
 clear hK5 K5
 (try simp only[Act.put,sX])
 refine Ae (i:=6) (v:=?v1016) rfl (by kernel_rfl) (by kernel_rfl) (by kernel_rfl) (fun _ _ _ h=>h) (Or.inl ⟨by rfl,?hy1016⟩) (by assumption) ?hr1016
 case hy1016 =>
  intro w' hSw
  (try dsimp only at hSw)
  go_simp
  (try with_reducible rfl)
 (try simp only[Act.put,sX])
 refine wpAnyH_done (by kernel_rfl) ?hr1017 _;refine As rfl ?hq1017;go_simp;refine hK.out _ _ ?hs1017;clear hK K;clear l0 l1 l2 l3 l4 l5 l6 l7 u0 u1 u2 u3 u4 u5 u6 u7 z0 z1 z2 z3 z4 z5 z6 z7;have f8:Fr [P] y2 x8:=((Fr.refl [P] y2).drew).trans f8;have row:=ROWH.out;obtain⟨F,g0,q0,h0,row,hsh,hnew,hsz⟩:=Ct (fld:=6) (size:=8) Al f8 hx2 rfl hst g0 q0 row F (by omega) (by omega) (by omega) (by omega) (by omega) (by omega) (by omega) hown9 hgrow9 hfp9 (VV':=#[vI 9,vI t.at',.string ⟨(Aq v ⟨st.i+1,st.ok⟩).toArray⟩,vI 0,vE,vZ,.slice (some ⟨g8,0,none⟩) 2 cp8,vZ]) rfl;clear ROWH ROW9 Q8 Q9 hown9 hgrow9 hfp9 f8 hst hT8 hT9 hTwr
 generalize w9.setCell ⟨T,6,none⟩ (.slice (some ⟨g8,0,none⟩) 2 cp8)=y3 at *
 clear hsh hnew hsz cS;have hBT2:=Aa g0;have row0:=Aj.keep (ok':=fun b=>B<b) Al row (Sh.of_fr (Fr.refl [] y3) (fun b hb hlt=>⟨hb.1,fun x=>by cases x⟩));obtain⟨⟨l0,l1,l2,l3,l4,l5,l6,l7⟩,_⟩:=Ac q0;obtain⟨⟨u0,u1,u2,u3,u4,u5,u6,u7⟩,z0,z1,z2,z3,z4,z5,z6,z7⟩:=Ac g0;clear row;have HG:=Hz (An g0 (vI 9) (vI t.at') (.string ⟨(Aq v ⟨st.i+1,st.ok⟩).toArray⟩) (vI 0) (vE) (vZ) (.slice (some ⟨g8,0,none⟩) 2 cp8) (vZ));have HF:=Hz ((F).step (Ag y3 B (vI 9) (vI t.at') (.string ⟨(Aq v ⟨st.i+1,st.ok⟩).toArray⟩) (vI 0) (vE) (vZ) (.slice (some ⟨g8,0,none⟩) 2 cp8) (vZ)) (fun x hx => .inr (by simp at hx;omega)));have HP:=Hz ((h0).frL (Ag y3 B (vI 9) (vI t.at') (.string ⟨(Aq v ⟨st.i+1,st.ok⟩).toArray⟩) (vI 0) (vE) (vZ) (.slice (some ⟨g8,0,none⟩) 2 cp8) (vZ)) (by simpa using nP) (by simpa using ng));have HR:=Hz (Aj.keep (ok':=fun b=>B≤b) Al row0 (Sh.of_fr (Ag y3 B (vI 9) (vI t.at') (.string ⟨(Aq v ⟨st.i+1,st.ok⟩).toArray⟩) (vI 0) (vE) (vZ) (.slice (some ⟨g8,0,none⟩) 2 cp8) (vZ)) (fun b hb hlt=>⟨by omega,by simp;omega⟩)));unfold st8 at HG HF HP HR;go_wp2_with fail;generalize (((((((y3.setCell ⟨B,0,none⟩ (vI 9)).setCell ⟨B,1,none⟩ (vI t.at')).setCell ⟨B,2,none⟩ (.string ⟨(Aq v ⟨st.i+1,st.ok⟩).toArray⟩)).setCell ⟨B,3,none⟩ (vI 0)).setCell ⟨B,4,none⟩ (vE)).setCell ⟨B,5,none⟩ (vZ)).setCell ⟨B,6,none⟩ (.slice (some ⟨g8,0,none⟩) 2 cp8)).setCell ⟨B,7,none⟩ (vZ)=Z at HG HF HP HR ⊢;obtain⟨⟨d0,d1,d2,d3,d4,d5,d6,d7⟩,_⟩:=Ac HG.out;have hxx:=Ai.of_rows (k:=9) (a:=t.at') (nm:=Aq v ⟨st.i+1,st.ok⟩) (n:=0) (s:=[]) (c5:=fun _=>[]) (c7:=fun _=>[]) Aj.nil_ HR.out Aj.nil_;refine bodyPost_ret (v:=.agg #[vI 9,vI t.at',.string ⟨(Aq v ⟨st.i+1,st.ok⟩).toArray⟩,vI 0,vE,vZ,.slice (some ⟨g8,0,none⟩) 2 cp8,vZ]) ?_ rfl ?_
 ·simp[results,Tryz.f33,go_sem,d0,d1,d2,d3,d4,d5,d6,d7]
 ·exact⟨_,_,_,_,_,_,_,_,_,_,_,_,_,_,_,_,_,_,rfl,by rw[hB];exact hxx,.look HT.out (.may_yes HT.out HB0.out (.thn (.may_no hu (HRC.out u hu) (.name_ hv (.must_ hp (.callE hr1 (.must_ hq (.callE hr2 .retE)))))))),HP.out,HF.out⟩
end
end Go.Proofs.YtpjkfeehgookkaaGreatDoor
