/- A part of the proof: Pi, Pj, Pg, Ya, Yb, Yd. -/
import Derived.Deep.DrawnRows
import Derived.BigQuiet
import Derived.Deep.QuietTactic
import Derived.Deep.RegionHeld3
import Derived.Test.YtabhpdhajajoiaaGreatDoorEb7
namespace Go.Proofs.YtabhpdhajajoiaaGreatDoor
open Go.RowKit
open _root_.Go.Proofs.Tryz
set_option linter.all false
set_option maxHeartbeats 16000000
set_option maxRecDepth 100000
open List renaming getElem?_eq_getElem→Lg'
open Nat renaming le_refl→Nr'
open Bool renaming and_eq_true→Ba'
section
attribute [local go_sem ↓] Go.wp_at_zero Go.wp_at_succ
theorem Bd.leaf(w:World)(ok:Nat→Prop)(k a:Int)(nm:LB)(n:Int)(s:LB):Bd w ok (.mk k a nm n s [] []) [vI k,vI a,vS nm,vI n,vS s,vZ,vZ] :=
 Bd.of_rows (c5:=fun _=>[]) (c6:=fun _=>[]) Al.nil_ Al.nil_
def GM(ts:List Tok)(N:Nat):Prop:=∀ (P g c:Nat)(st:St)(a:Int)(w:World),PSt P g c ts st w→16 *(ts.length-st.i)<N→Calls prog 200 #[.pointer (some ⟨P,0,none⟩),.agg #[vI 0,vI a,vE,vI 0,vE,vZ,vZ]] w (Qu P g c ts st (Cn (.marked (.mk 0 a [] 0 [] [] []))) w)
theorem Xm(ts:List Tok)(hE:B8 ts)(N:Nat)(ihM:GM ts N):GP ts (N+1) 1 .patom 177:=by
 intro P g c st w h hm;have IHM:=Hz ihM;clear ihM;have H:=Hz h;have hP:=Aa h.blk;have hgl:=h.lt;have hin:=h.inb;have HN:=Hz hm;have HE:=Hz hE;clear h hm hE;go_enter func177,ntmps177;have f0:Fr [] w (w.alloc (.cells #[vI 0,vI 0,vE,vI 0,vE,vZ,vZ] 25)):=(Fr.refl [] w).alloc _;have h0:=H.out.fr f0;obtain⟨p0,p1,p2,_⟩:=Ep H.out.blk;have g0:=Ad w (.cells #[vI 0,vI 0,vE,vI 0,vE,vZ,vZ] 25);obtain⟨t,ht⟩:=A4 hin
 cases hok:st.ok with
 | false =>
  rw[hok] at p2;have HOK:=Hz hok;clear hok;go_wp2_with fail;obtain⟨⟨d0,d1,d2,d3,d4,d5,d6⟩,_⟩:=Aq g0;refine bodyPost_ret (v:=.agg #[vI 0,vI 0,vE,vI 0,vE,vZ,vZ]) ?_ rfl ?_
  ·simp[results,Tryz.f177,go_sem,d0,d1,d2,d3,d4,d5,d6]
  ·exact⟨_,_,_,_,_,_,_,_,_,_,_,_,_,_,rfl,Bd.leaf _ _ 0 0 [] 0 [],.look ht (by rw[if_pos HOK.out];exact .retP),h0,f0.mono (fun x hx=>by cases hx)⟩
 | true =>
  rw[hok] at p2;go_wp2_with fail;clear p0 p1 p2
  generalize w.alloc (.cells #[vI 0,vI 0,vE,vI 0,vE,vZ,vZ] 25)=w1 at *
  generalize hB:w.heap.size=B at *
  have hB1:=Aa g0;have nP:¬ P=B:=by omega
  have nB:¬ B=P:=by omega
  have ng:¬ g=B:=by omega
  refine(B7 P g c ts st t ht w1 h0 HE.out).mono ?_;rintro e x3 ⟨rfl,f3⟩;have g0:=f3.keep g0 nE;have h3:=h0.fr f3;have F3:=f0.trans f3;clear h0 f0 f3;have HT:=Hz ht;clear ht
  cases t with
  | mk tk ta tt tn =>
  simp only at *
  by_cases e0:tk=1
  ·subst e0;go_wp2_with fail;have q3:=Af (Ad x3 (.cells #[vI 1,vI ta,vS tt,vI tn] 79)) (.cells #[vI 0,vI ta,vE,vI 0,vE,vZ,vZ] 25);have q4:=Ad (x3.alloc (.cells #[vI 1,vI ta,vS tt,vI tn] 79)) (.cells #[vI 0,vI ta,vE,vI 0,vE,vZ,vZ] 25);have hsz:(x3.alloc (.cells #[vI 1,vI ta,vS tt,vI tn] 79)).heap.size=x3.heap.size+1:=by simp
   rw[hsz] at q4;clear hsz;have fbb:Fr [] x3 ((x3.alloc (.cells #[vI 1,vI ta,vS tt,vI tn] 79)).alloc (.cells #[vI 0,vI ta,vE,vI 0,vE,vZ,vZ] 25)):=((Fr.refl [] x3).alloc _).alloc _;have hBT:=Aa g0;have hPT:=Aa h3.blk;have g0:=fbb.keep g0 nE;have h5:=h3.fr fbb;have F5:=F3.trans fbb
   generalize (x3.alloc (.cells #[vI 1,vI ta,vS tt,vI tn] 79)).alloc (.cells #[vI 0,vI ta,vE,vI 0,vE,vZ,vZ] 25)=x5 at *
   generalize x3.heap.size=T3 at *
   have hT4:=Aa q4;obtain⟨m0,m1,m2,m3,_⟩:=Ao q3;obtain⟨⟨u0,u1,u2,u3,u4,u5,u6⟩,z0,z1,z2,z3,z4,z5,z6⟩:=Aq q4
   go_region_held3 (fun w'=>w'.cell? ⟨T3,2,none⟩=some (vS tt)) (go_keep) (fail)
   have q6:(((x5.setCell ⟨T3+1,0,none⟩ (vI 2)).setCell ⟨T3+1,2,none⟩ (vS tt)).drew).heap[T3+1]?=some (.cells #[vI 2,vI ta,vS tt,vI 0,vE,vZ,vZ] 25 (0,0)):=Bn (Bn q4 0 (vI 2)) 2 (vS tt);have fs:Fr [T3+1] x5 (((x5.setCell ⟨T3+1,0,none⟩ (vI 2)).setCell ⟨T3+1,2,none⟩ (vS tt)).drew):=(((Fr.refl [T3+1] x5).setCell (p:=⟨T3+1,0,none⟩) (.inl (by simp)) _).setCell (p:=⟨T3+1,2,none⟩) (.inl (by simp)) _).drew;have q3:=fs.keep q3 (by simp);have g0:=fs.keep g0 (by simp;omega);have h6:=h5.frL fs (by simp;omega) (by simp;omega);have F6:=F5.step fs (fun x hx => .inr (by simp at hx;omega));clear m0 m1 m2 m3 u0 u1 u2 u3 u4 u5 u6 z0 z1 z2 z3 z4 z5 z6 q4
   generalize ((x5.setCell ⟨T3+1,0,none⟩ (vI 2)).setCell ⟨T3+1,2,none⟩ (vS tt)).drew=x6 at *
   obtain⟨m0,m1,m2,m3,_⟩:=Ao q3
   by_cases d0:tt=[95]
   ·subst d0;obtain⟨⟨u0,u1,u2,u3,u4,u5,u6⟩,z0,z1,z2,z3,z4,z5,z6⟩:=Aq q6;have q9:=q6;have hT9:=Aa q9;clear q6;go_wp2_with fail;clear m0 m1 m2 m3 u0 u1 u2 u3 u4 u5 u6 z0 z1 z2 z3 z4 z5 z6;have q6:((x6.setCell ⟨T3+1,0,none⟩ (vI 1)).setCell ⟨T3+1,2,none⟩ (vE)).heap[T3+1]?=some (.cells #[vI 1,vI ta,vE,vI 0,vE,vZ,vZ] 25 (0,0)):=Bn (Bn q9 0 (vI 1)) 2 (vE)
    have fs:Fr [T3+1] x6 ((x6.setCell ⟨T3+1,0,none⟩ (vI 1)).setCell ⟨T3+1,2,none⟩ (vE)):=(((Fr.refl [T3+1] x6).setCell (p:=⟨T3+1,0,none⟩) (.inl (by simp)) _).setCell (p:=⟨T3+1,2,none⟩) (.inl (by simp)) _)
    have g0:=fs.keep g0 (by simp;omega);have h6:=h6.frL fs (by simp;omega) (by simp;omega);have F6:=F6.step fs (fun x hx => .inr (by simp at hx;omega));clear q9
    generalize (x6.setCell ⟨T3+1,0,none⟩ (vI 1)).setCell ⟨T3+1,2,none⟩ (vE)=x6 at *
    refine(Dw P g c ts st ⟨1,ta,[95],tn⟩ HT.out hok (by simp) x6 h6 HE.out).mono ?_;rintro e x7 ⟨rfl,h7,f7⟩;have g0:=f7.keep g0 (by simpa using nB);have q6:=f7.keep q6 (by simp;omega);have F7:=(F6.mono (L':=[P]) (fun x hx=>by cases hx)).trans f7;obtain⟨⟨l0,l1,l2,l3,l4,l5,l6⟩,_⟩:=Aq q6;have HOK:=Hz hok;have HT2:=HT;clear hok;have hBT:=Aa g0;have HG:=Hz (Cx g0 (vI 1) (vI ta) (vE) (vI 0) (vE) (vZ) (vZ));have HF:=Hz ((F7).step (Bo x7 B (vI 1) (vI ta) (vE) (vI 0) (vE) (vZ) (vZ)) (fun x hx => .inr (by simp at hx;omega)));have HP:=Hz ((h7).frL (Bo x7 B (vI 1) (vI ta) (vE) (vI 0) (vE) (vZ) (vZ)) (by simpa using nP) (by simpa using ng));unfold st7 at HG HF HP;obtain⟨⟨u0,u1,u2,u3,u4,u5,u6⟩,z0,z1,z2,z3,z4,z5,z6⟩:=Aq g0;go_wp2_with fail;generalize ((((((x7.setCell ⟨B,0,none⟩ (vI 1)).setCell ⟨B,1,none⟩ (vI ta)).setCell ⟨B,2,none⟩ (vE)).setCell ⟨B,3,none⟩ (vI 0)).setCell ⟨B,4,none⟩ (vE)).setCell ⟨B,5,none⟩ (vZ)).setCell ⟨B,6,none⟩ (vZ)=Z at HG HF HP ⊢;obtain⟨⟨d0,d1,d2,d3,d4,d5,d6⟩,_⟩:=Aq HG.out;refine bodyPost_ret (v:=.agg #[vI 1,vI ta,vE,vI 0,vE,vZ,vZ]) ?_ rfl ?_
    ·simp[results,Tryz.f177,go_sem,d0,d1,d2,d3,d4,d5,d6]
    ·exact⟨_,_,_,_,_,_,_,_,_,_,_,_,_,_,rfl,Bd.leaf _ _ 1 ta [] 0 [],.look HT2.out (by rw[if_neg (by rw[HOK.out];decide)];simp;exact .adv .retP),HP.out,HF.out⟩
   ·have c0:(tt==[95])=false:=bN.2 d0;have D0:=Hz d0;clear d0;go_wp2_with fail;clear m0 m1 m2 m3;refine(Dw P g c ts st ⟨1,ta,tt,tn⟩ HT.out hok (by simp) x6 h6 HE.out).mono ?_;rintro e x7 ⟨rfl,h7,f7⟩;have g0:=f7.keep g0 (by simpa using nB);have q6:=f7.keep q6 (by simp;omega);have F7:=(F6.mono (L':=[P]) (fun x hx=>by cases hx)).trans f7;obtain⟨⟨l0,l1,l2,l3,l4,l5,l6⟩,_⟩:=Aq q6;have HOK:=Hz hok;have HT2:=HT;clear hok;have hBT:=Aa g0;have HG:=Hz (Cx g0 (vI 2) (vI ta) (vS tt) (vI 0) (vE) (vZ) (vZ));have HF:=Hz ((F7).step (Bo x7 B (vI 2) (vI ta) (vS tt) (vI 0) (vE) (vZ) (vZ)) (fun x hx => .inr (by simp at hx;omega)));have HP:=Hz ((h7).frL (Bo x7 B (vI 2) (vI ta) (vS tt) (vI 0) (vE) (vZ) (vZ)) (by simpa using nP) (by simpa using ng));unfold st7 at HG HF HP;obtain⟨⟨u0,u1,u2,u3,u4,u5,u6⟩,z0,z1,z2,z3,z4,z5,z6⟩:=Aq g0;go_wp2_with fail;generalize ((((((x7.setCell ⟨B,0,none⟩ (vI 2)).setCell ⟨B,1,none⟩ (vI ta)).setCell ⟨B,2,none⟩ (vS tt)).setCell ⟨B,3,none⟩ (vI 0)).setCell ⟨B,4,none⟩ (vE)).setCell ⟨B,5,none⟩ (vZ)).setCell ⟨B,6,none⟩ (vZ)=Z at HG HF HP ⊢;obtain⟨⟨d0,d1,d2,d3,d4,d5,d6⟩,_⟩:=Aq HG.out;refine bodyPost_ret (v:=.agg #[vI 2,vI ta,vS tt,vI 0,vE,vZ,vZ]) ?_ rfl ?_
    ·simp[results,Tryz.f177,go_sem,d0,d1,d2,d3,d4,d5,d6]
    ·exact⟨_,_,_,_,_,_,_,_,_,_,_,_,_,_,rfl,Bd.leaf _ _ 2 ta tt 0 [],.look HT2.out (by rw[if_neg (by rw[HOK.out];decide)];simp[D0.out];exact .adv .retP),HP.out,HF.out⟩
  by_cases e1:tk=2
  ·subst e1;go_wp2_with fail;have q3:=Af (Ad x3 (.cells #[vI 2,vI ta,vS tt,vI tn] 79)) (.cells #[vI 0,vI ta,vE,vI 0,vE,vZ,vZ] 25);have q4:=Ad (x3.alloc (.cells #[vI 2,vI ta,vS tt,vI tn] 79)) (.cells #[vI 0,vI ta,vE,vI 0,vE,vZ,vZ] 25);have hsz:(x3.alloc (.cells #[vI 2,vI ta,vS tt,vI tn] 79)).heap.size=x3.heap.size+1:=by simp
   rw[hsz] at q4;clear hsz;have fbb:Fr [] x3 ((x3.alloc (.cells #[vI 2,vI ta,vS tt,vI tn] 79)).alloc (.cells #[vI 0,vI ta,vE,vI 0,vE,vZ,vZ] 25)):=((Fr.refl [] x3).alloc _).alloc _;have hBT:=Aa g0;have hPT:=Aa h3.blk;have g0:=fbb.keep g0 nE;have h5:=h3.fr fbb;have F5:=F3.trans fbb
   generalize (x3.alloc (.cells #[vI 2,vI ta,vS tt,vI tn] 79)).alloc (.cells #[vI 0,vI ta,vE,vI 0,vE,vZ,vZ] 25)=x5 at *
   generalize x3.heap.size=T3 at *
   have hT4:=Aa q4;obtain⟨m0,m1,m2,m3,_⟩:=Ao q3;obtain⟨⟨u0,u1,u2,u3,u4,u5,u6⟩,z0,z1,z2,z3,z4,z5,z6⟩:=Aq q4
   go_region_held3 (fun w'=>w'.cell? ⟨T3,2,none⟩=some (vS tt)) (go_keep) (fail)
   have q6:(((x5.setCell ⟨T3+1,0,none⟩ (vI 7)).setCell ⟨T3+1,2,none⟩ (vS tt)).drew).heap[T3+1]?=some (.cells #[vI 7,vI ta,vS tt,vI 0,vE,vZ,vZ] 25 (0,0)):=Bn (Bn q4 0 (vI 7)) 2 (vS tt);have fs:Fr [T3+1] x5 (((x5.setCell ⟨T3+1,0,none⟩ (vI 7)).setCell ⟨T3+1,2,none⟩ (vS tt)).drew):=(((Fr.refl [T3+1] x5).setCell (p:=⟨T3+1,0,none⟩) (.inl (by simp)) _).setCell (p:=⟨T3+1,2,none⟩) (.inl (by simp)) _).drew;have q3:=fs.keep q3 (by simp);have g0:=fs.keep g0 (by simp;omega);have h6:=h5.frL fs (by simp;omega) (by simp;omega);have F6:=F5.step fs (fun x hx => .inr (by simp at hx;omega));clear m0 m1 m2 m3 u0 u1 u2 u3 u4 u5 u6 z0 z1 z2 z3 z4 z5 z6 q4
   generalize ((x5.setCell ⟨T3+1,0,none⟩ (vI 7)).setCell ⟨T3+1,2,none⟩ (vS tt)).drew=x6 at *
   go_wp2_with fail;refine(Dw P g c ts st ⟨2,ta,tt,tn⟩ HT.out hok (by simp) x6 h6 HE.out).mono ?_;rintro e x7 ⟨rfl,h7,f7⟩;have g0:=f7.keep g0 (by simpa using nB);have q6:=f7.keep q6 (by simp;omega);have F7:=(F6.mono (L':=[P]) (fun x hx=>by cases hx)).trans f7;obtain⟨⟨l0,l1,l2,l3,l4,l5,l6⟩,_⟩:=Aq q6;have HOK:=Hz hok;have HT2:=HT;clear hok;have hBT:=Aa g0;have HG:=Hz (Cx g0 (vI 7) (vI ta) (vS tt) (vI 0) (vE) (vZ) (vZ));have HF:=Hz ((F7).step (Bo x7 B (vI 7) (vI ta) (vS tt) (vI 0) (vE) (vZ) (vZ)) (fun x hx => .inr (by simp at hx;omega)));have HP:=Hz ((h7).frL (Bo x7 B (vI 7) (vI ta) (vS tt) (vI 0) (vE) (vZ) (vZ)) (by simpa using nP) (by simpa using ng));unfold st7 at HG HF HP;obtain⟨⟨u0,u1,u2,u3,u4,u5,u6⟩,z0,z1,z2,z3,z4,z5,z6⟩:=Aq g0;go_wp2_with fail;generalize ((((((x7.setCell ⟨B,0,none⟩ (vI 7)).setCell ⟨B,1,none⟩ (vI ta)).setCell ⟨B,2,none⟩ (vS tt)).setCell ⟨B,3,none⟩ (vI 0)).setCell ⟨B,4,none⟩ (vE)).setCell ⟨B,5,none⟩ (vZ)).setCell ⟨B,6,none⟩ (vZ)=Z at HG HF HP ⊢;obtain⟨⟨d0,d1,d2,d3,d4,d5,d6⟩,_⟩:=Aq HG.out;refine bodyPost_ret (v:=.agg #[vI 7,vI ta,vS tt,vI 0,vE,vZ,vZ]) ?_ rfl ?_
   ·simp[results,Tryz.f177,go_sem,d0,d1,d2,d3,d4,d5,d6]
   ·exact⟨_,_,_,_,_,_,_,_,_,_,_,_,_,_,rfl,Bd.leaf _ _ 7 ta tt 0 [],.look HT2.out (by rw[if_neg (by rw[HOK.out];decide)];simp;exact .adv .retP),HP.out,HF.out⟩
  by_cases e2:tk=4
  ·subst e2;go_wp2_with fail;have q3:=Af (Ad x3 (.cells #[vI 4,vI ta,vS tt,vI tn] 79)) (.cells #[vI 0,vI ta,vE,vI 0,vE,vZ,vZ] 25);have q4:=Ad (x3.alloc (.cells #[vI 4,vI ta,vS tt,vI tn] 79)) (.cells #[vI 0,vI ta,vE,vI 0,vE,vZ,vZ] 25);have hsz:(x3.alloc (.cells #[vI 4,vI ta,vS tt,vI tn] 79)).heap.size=x3.heap.size+1:=by simp
   rw[hsz] at q4;clear hsz;have fbb:Fr [] x3 ((x3.alloc (.cells #[vI 4,vI ta,vS tt,vI tn] 79)).alloc (.cells #[vI 0,vI ta,vE,vI 0,vE,vZ,vZ] 25)):=((Fr.refl [] x3).alloc _).alloc _;have hBT:=Aa g0;have hPT:=Aa h3.blk;have g0:=fbb.keep g0 nE;have h5:=h3.fr fbb;have F5:=F3.trans fbb
   generalize (x3.alloc (.cells #[vI 4,vI ta,vS tt,vI tn] 79)).alloc (.cells #[vI 0,vI ta,vE,vI 0,vE,vZ,vZ] 25)=x5 at *
   generalize x3.heap.size=T3 at *
   have hT4:=Aa q4;obtain⟨m0,m1,m2,m3,_⟩:=Ao q3;obtain⟨⟨u0,u1,u2,u3,u4,u5,u6⟩,z0,z1,z2,z3,z4,z5,z6⟩:=Aq q4
   go_region_held3 (fun w'=>w'.cell? ⟨T3,3,none⟩=some (vI tn)) (go_keep) (fail)
   have q6:(((x5.setCell ⟨T3+1,0,none⟩ (vI 3)).setCell ⟨T3+1,3,none⟩ (vI tn)).drew).heap[T3+1]?=some (.cells #[vI 3,vI ta,vE,vI tn,vE,vZ,vZ] 25 (0,0)):=Bn (Bn q4 0 (vI 3)) 3 (vI tn);have fs:Fr [T3+1] x5 (((x5.setCell ⟨T3+1,0,none⟩ (vI 3)).setCell ⟨T3+1,3,none⟩ (vI tn)).drew):=(((Fr.refl [T3+1] x5).setCell (p:=⟨T3+1,0,none⟩) (.inl (by simp)) _).setCell (p:=⟨T3+1,3,none⟩) (.inl (by simp)) _).drew;have q3:=fs.keep q3 (by simp);have g0:=fs.keep g0 (by simp;omega);have h6:=h5.frL fs (by simp;omega) (by simp;omega);have F6:=F5.step fs (fun x hx => .inr (by simp at hx;omega));clear m0 m1 m2 m3 u0 u1 u2 u3 u4 u5 u6 z0 z1 z2 z3 z4 z5 z6 q4
   generalize ((x5.setCell ⟨T3+1,0,none⟩ (vI 3)).setCell ⟨T3+1,3,none⟩ (vI tn)).drew=x6 at *
   go_wp2_with fail;refine(Dw P g c ts st ⟨4,ta,tt,tn⟩ HT.out hok (by simp) x6 h6 HE.out).mono ?_;rintro e x7 ⟨rfl,h7,f7⟩;have g0:=f7.keep g0 (by simpa using nB);have q6:=f7.keep q6 (by simp;omega);have F7:=(F6.mono (L':=[P]) (fun x hx=>by cases hx)).trans f7;obtain⟨⟨l0,l1,l2,l3,l4,l5,l6⟩,_⟩:=Aq q6;have HOK:=Hz hok;have HT2:=HT;clear hok;have hBT:=Aa g0;have HG:=Hz (Cx g0 (vI 3) (vI ta) (vE) (vI tn) (vE) (vZ) (vZ));have HF:=Hz ((F7).step (Bo x7 B (vI 3) (vI ta) (vE) (vI tn) (vE) (vZ) (vZ)) (fun x hx => .inr (by simp at hx;omega)));have HP:=Hz ((h7).frL (Bo x7 B (vI 3) (vI ta) (vE) (vI tn) (vE) (vZ) (vZ)) (by simpa using nP) (by simpa using ng));unfold st7 at HG HF HP;obtain⟨⟨u0,u1,u2,u3,u4,u5,u6⟩,z0,z1,z2,z3,z4,z5,z6⟩:=Aq g0;go_wp2_with fail;generalize ((((((x7.setCell ⟨B,0,none⟩ (vI 3)).setCell ⟨B,1,none⟩ (vI ta)).setCell ⟨B,2,none⟩ (vE)).setCell ⟨B,3,none⟩ (vI tn)).setCell ⟨B,4,none⟩ (vE)).setCell ⟨B,5,none⟩ (vZ)).setCell ⟨B,6,none⟩ (vZ)=Z at HG HF HP ⊢;obtain⟨⟨d0,d1,d2,d3,d4,d5,d6⟩,_⟩:=Aq HG.out;refine bodyPost_ret (v:=.agg #[vI 3,vI ta,vE,vI tn,vE,vZ,vZ]) ?_ rfl ?_
   ·simp[results,Tryz.f177,go_sem,d0,d1,d2,d3,d4,d5,d6]
   ·exact⟨_,_,_,_,_,_,_,_,_,_,_,_,_,_,rfl,Bd.leaf _ _ 3 ta [] tn [],.look HT2.out (by rw[if_neg (by rw[HOK.out];decide)];simp;exact .adv .retP),HP.out,HF.out⟩
  by_cases e3:tk=5
  ·subst e3;go_wp2_with fail;have q3:=Af (Ad x3 (.cells #[vI 5,vI ta,vS tt,vI tn] 79)) (.cells #[vI 0,vI ta,vE,vI 0,vE,vZ,vZ] 25);have q4:=Ad (x3.alloc (.cells #[vI 5,vI ta,vS tt,vI tn] 79)) (.cells #[vI 0,vI ta,vE,vI 0,vE,vZ,vZ] 25);have hsz:(x3.alloc (.cells #[vI 5,vI ta,vS tt,vI tn] 79)).heap.size=x3.heap.size+1:=by simp
   rw[hsz] at q4;clear hsz;have fbb:Fr [] x3 ((x3.alloc (.cells #[vI 5,vI ta,vS tt,vI tn] 79)).alloc (.cells #[vI 0,vI ta,vE,vI 0,vE,vZ,vZ] 25)):=((Fr.refl [] x3).alloc _).alloc _;have hBT:=Aa g0;have hPT:=Aa h3.blk;have g0:=fbb.keep g0 nE;have h5:=h3.fr fbb;have F5:=F3.trans fbb
   generalize (x3.alloc (.cells #[vI 5,vI ta,vS tt,vI tn] 79)).alloc (.cells #[vI 0,vI ta,vE,vI 0,vE,vZ,vZ] 25)=x5 at *
   generalize x3.heap.size=T3 at *
   have hT4:=Aa q4;obtain⟨m0,m1,m2,m3,_⟩:=Ao q3;obtain⟨⟨u0,u1,u2,u3,u4,u5,u6⟩,z0,z1,z2,z3,z4,z5,z6⟩:=Aq q4
   go_region_held3 (fun w'=>w'.cell? ⟨T3,2,none⟩=some (vS tt)) (go_keep) (fail)
   have q6:(((x5.setCell ⟨T3+1,0,none⟩ (vI 4)).setCell ⟨T3+1,4,none⟩ (vS tt)).drew).heap[T3+1]?=some (.cells #[vI 4,vI ta,vE,vI 0,vS tt,vZ,vZ] 25 (0,0)):=Bn (Bn q4 0 (vI 4)) 4 (vS tt);have fs:Fr [T3+1] x5 (((x5.setCell ⟨T3+1,0,none⟩ (vI 4)).setCell ⟨T3+1,4,none⟩ (vS tt)).drew):=(((Fr.refl [T3+1] x5).setCell (p:=⟨T3+1,0,none⟩) (.inl (by simp)) _).setCell (p:=⟨T3+1,4,none⟩) (.inl (by simp)) _).drew;have q3:=fs.keep q3 (by simp);have g0:=fs.keep g0 (by simp;omega);have h6:=h5.frL fs (by simp;omega) (by simp;omega);have F6:=F5.step fs (fun x hx => .inr (by simp at hx;omega));clear m0 m1 m2 m3 u0 u1 u2 u3 u4 u5 u6 z0 z1 z2 z3 z4 z5 z6 q4
   generalize ((x5.setCell ⟨T3+1,0,none⟩ (vI 4)).setCell ⟨T3+1,4,none⟩ (vS tt)).drew=x6 at *
   go_wp2_with fail;refine(Dw P g c ts st ⟨5,ta,tt,tn⟩ HT.out hok (by simp) x6 h6 HE.out).mono ?_;rintro e x7 ⟨rfl,h7,f7⟩;have g0:=f7.keep g0 (by simpa using nB);have q6:=f7.keep q6 (by simp;omega);have F7:=(F6.mono (L':=[P]) (fun x hx=>by cases hx)).trans f7;obtain⟨⟨l0,l1,l2,l3,l4,l5,l6⟩,_⟩:=Aq q6;have HOK:=Hz hok;have HT2:=HT;clear hok;have hBT:=Aa g0;have HG:=Hz (Cx g0 (vI 4) (vI ta) (vE) (vI 0) (vS tt) (vZ) (vZ));have HF:=Hz ((F7).step (Bo x7 B (vI 4) (vI ta) (vE) (vI 0) (vS tt) (vZ) (vZ)) (fun x hx => .inr (by simp at hx;omega)));have HP:=Hz ((h7).frL (Bo x7 B (vI 4) (vI ta) (vE) (vI 0) (vS tt) (vZ) (vZ)) (by simpa using nP) (by simpa using ng));unfold st7 at HG HF HP;obtain⟨⟨u0,u1,u2,u3,u4,u5,u6⟩,z0,z1,z2,z3,z4,z5,z6⟩:=Aq g0;go_wp2_with fail;generalize ((((((x7.setCell ⟨B,0,none⟩ (vI 4)).setCell ⟨B,1,none⟩ (vI ta)).setCell ⟨B,2,none⟩ (vE)).setCell ⟨B,3,none⟩ (vI 0)).setCell ⟨B,4,none⟩ (vS tt)).setCell ⟨B,5,none⟩ (vZ)).setCell ⟨B,6,none⟩ (vZ)=Z at HG HF HP ⊢;obtain⟨⟨d0,d1,d2,d3,d4,d5,d6⟩,_⟩:=Aq HG.out;refine bodyPost_ret (v:=.agg #[vI 4,vI ta,vE,vI 0,vS tt,vZ,vZ]) ?_ rfl ?_
   ·simp[results,Tryz.f177,go_sem,d0,d1,d2,d3,d4,d5,d6]
   ·exact⟨_,_,_,_,_,_,_,_,_,_,_,_,_,_,rfl,Bd.leaf _ _ 4 ta [] 0 tt,.look HT2.out (by rw[if_neg (by rw[HOK.out];decide)];simp;exact .adv .retP),HP.out,HF.out⟩
  have b0:(tk==1)=false:=bN.2 e0;have b1:(tk==2)=false:=bN.2 e1;have b2:(tk==4)=false:=bN.2 e2;have b3:(tk==5)=false:=bN.2 e3;have HOK:=Hz hok;have HE4:=Hz (And.intro e0 (And.intro e1 (And.intro e2 e3)));clear e0 e1 e2 e3 hok;go_wp2_with fail;have q3:=Af (Ad x3 (.cells #[vI tk,vI ta,vS tt,vI tn] 79)) (.cells #[vI 0,vI ta,vE,vI 0,vE,vZ,vZ] 25);have q4:=Ad (x3.alloc (.cells #[vI tk,vI ta,vS tt,vI tn] 79)) (.cells #[vI 0,vI ta,vE,vI 0,vE,vZ,vZ] 25);have hsz:(x3.alloc (.cells #[vI tk,vI ta,vS tt,vI tn] 79)).heap.size=x3.heap.size+1:=by simp
  rw[hsz] at q4;clear hsz;have fbb:Fr [] x3 ((x3.alloc (.cells #[vI tk,vI ta,vS tt,vI tn] 79)).alloc (.cells #[vI 0,vI ta,vE,vI 0,vE,vZ,vZ] 25)):=((Fr.refl [] x3).alloc _).alloc _;have hBT:=Aa g0;have hPT:=Aa h3.blk;have g0:=fbb.keep g0 nE;have h5:=h3.fr fbb;have F5:=F3.trans fbb
  generalize (x3.alloc (.cells #[vI tk,vI ta,vS tt,vI tn] 79)).alloc (.cells #[vI 0,vI ta,vE,vI 0,vE,vZ,vZ] 25)=x5 at *
  generalize x3.heap.size=T3 at *
  have hT4:=Aa q4;obtain⟨m0,m1,m2,m3,_⟩:=Ao q3;obtain⟨⟨u0,u1,u2,u3,u4,u5,u6⟩,z0,z1,z2,z3,z4,z5,z6⟩:=Aq q4;clear m0 m1 m2 m3 u0 u1 u2 u3 u4 u5 u6 z0 z1 z2 z3 z4 z5 z6;refine(IHM.out P g c st ta x5 h5 (by have:=HN.out;omega)).mono ?_;rintro e x6 ⟨k2,a2,nm2,n2,s2,ls2,args2,A52,n52,c52,A62,n62,c62,st2,rfl,hx2,hr2,hst2,f6⟩;have g0:=f6.keep g0 (by simpa using nB);have hx2:=hx2.keep (ok':=fun b=>B<b) (Sh.of_fr (Fr.refl [] x6) (fun b hb hlt=>⟨by have:x5.heap.size≤b:=hb;omega,fun x=>by cases x⟩));have hBT:=Aa g0;have HG:=Hz (Cx g0 (vI k2) (vI a2) (vS nm2) (vI n2) (vS s2) (.slice A52 n52 c52) (.slice A62 n62 c62));have HF:=Hz (((F5.mono (L':=[P]) (fun x hx=>by cases hx)).trans f6).step (Bo x6 B (vI k2) (vI a2) (vS nm2) (vI n2) (vS s2) (.slice A52 n52 c52) (.slice A62 n62 c62)) (fun x hx => .inr (by simp at hx;omega)));have HP:=Hz ((hst2).frL (Bo x6 B (vI k2) (vI a2) (vS nm2) (vI n2) (vS s2) (.slice A52 n52 c52) (.slice A62 n62 c62)) (by simpa using nP) (by simpa using ng));have HX:Hid (Bd (st7 x6 B (vI k2) (vI a2) (vS nm2) (vI n2) (vS s2) (.slice A52 n52 c52) (.slice A62 n62 c62)) (fun b=>B≤b) (.mk k2 a2 nm2 n2 s2 ls2 args2) [vI k2,vI a2,vS nm2,vI n2,vS s2,.slice A52 n52 c52,.slice A62 n62 c62]):=Hz ((hx2).keep (Sh.of_fr (Bo x6 B (vI k2) (vI a2) (vS nm2) (vI n2) (vS s2) (.slice A52 n52 c52) (.slice A62 n62 c62)) (fun b hb hlt=>⟨by omega,by simp;omega⟩)));unfold st7 at HG HF HP HX;obtain⟨⟨u0,u1,u2,u3,u4,u5,u6⟩,z0,z1,z2,z3,z4,z5,z6⟩:=Aq g0;go_wp2_with fail;generalize ((((((x6.setCell ⟨B,0,none⟩ (vI k2)).setCell ⟨B,1,none⟩ (vI a2)).setCell ⟨B,2,none⟩ (vS nm2)).setCell ⟨B,3,none⟩ (vI n2)).setCell ⟨B,4,none⟩ (vS s2)).setCell ⟨B,5,none⟩ (.slice A52 n52 c52)).setCell ⟨B,6,none⟩ (.slice A62 n62 c62)=Z at HG HF HP HX ⊢;obtain⟨⟨d0,d1,d2,d3,d4,d5,d6⟩,_⟩:=Aq HG.out;refine bodyPost_ret (v:=.agg #[vI k2,vI a2,vS nm2,vI n2,vS s2,.slice A52 n52 c52,.slice A62 n62 c62]) ?_ rfl ?_
  ·simp[results,Tryz.f177,go_sem,d0,d1,d2,d3,d4,d5,d6]
  ·exact⟨_,_,_,_,_,_,_,_,_,_,_,_,_,_,rfl,by rw[hB];exact HX.out,.look HT.out (by rw[if_neg (by rw[HOK.out];decide),if_neg HE4.out.1,if_neg HE4.out.2.1,if_neg HE4.out.2.2.1,if_neg HE4.out.2.2.2];exact .callP hr2 .retP),HP.out,HF.out⟩
theorem pat_step(ts:List Tok)(hE:B8 ts)(N:Nat)(ihP:GP ts N 1 .patom 177):GP ts (N+1) 2 .pat 147:=by
 intro P g c st w h hm;have IHP:=Hz ihP;clear ihP;have H:=Hz h;have hP:=Aa h.blk;have hgl:=h.lt;have hin:=h.inb;have HN:=Hz hm;have HE:=Hz hE;clear h hm hE;go_enter func147,ntmps147;go_wp2_with fail;have f0:Fr [] w (w.alloc (.cells #[vI 0,vI 0,vE,vI 0,vE,vZ,vZ] 25)):=(Fr.refl [] w).alloc _;have g0:=Ad w (.cells #[vI 0,vI 0,vE,vI 0,vE,vZ,vZ] 25)
 generalize w.alloc (.cells #[vI 0,vI 0,vE,vI 0,vE,vZ,vZ] 25)=w1 at *
 generalize hB:w.heap.size=B at *
 have hB1:=Aa g0;have nP:¬ P=B:=by omega
 have nB:¬ B=P:=by omega
 have ng:¬ g=B:=by omega
 obtain⟨t,ht⟩:=A4 hin;refine(B7 P g c ts st t ht w1 (H.out.fr f0) HE.out).mono ?_;rintro e x3 ⟨rfl,f3⟩;have hTB:=Aa (f3.keep g0 nE);have h3:=H.out.fr (f0.trans f3);have hP3:=Aa h3.blk;have q3:=Ad x3 (.cells #[vI t.k,vI t.at',.string ⟨t.text.toArray⟩,vI t.n] 79);have fb4:Fr [] x3 (x3.alloc (.cells #[vI t.k,vI t.at',.string ⟨t.text.toArray⟩,vI t.n] 79)):=(Fr.refl [] x3).alloc _;have f4:=(f0.trans f3).trans fb4;have g0:=(f3.trans fb4).keep g0 nE;have h4:=H.out.fr f4;obtain⟨p0,p1,p2,_⟩:=Ep h3.blk;have hT4:=Aa q3;clear h3 fb4;have HT:=Hz ht
 cases hok:st.ok with
 | false =>
  rw[hok] at p2;have HOK:=Hz hok;clear hok;go_wp2_with fail;clear p0 p1 p2
  generalize x3.alloc (.cells #[vI t.k,vI t.at',.string ⟨t.text.toArray⟩,vI t.n] 79)=x4 at *
  generalize x3.heap.size=T3 at *
  refine(IHP.out P g c st x4 h4 (by have:=HN.out;omega)).mono ?_;rintro e x6 ⟨k2,a2,nm2,n2,s2,ls2,args2,A52,n52,c52,A62,n62,c62,st2,rfl,hx2,hr2,hst2,f6⟩;have g0:=f6.keep g0 (by simpa using nB);have hx2:=hx2.keep (ok':=fun b=>B<b) (Sh.of_fr (Fr.refl [] x6) (fun b hb hlt=>⟨by have:x4.heap.size≤b:=hb;omega,fun x=>by cases x⟩));have hBT:=Aa g0;have HG:=Hz (Cx g0 (vI k2) (vI a2) (vS nm2) (vI n2) (vS s2) (.slice A52 n52 c52) (.slice A62 n62 c62));have HF:=Hz (((f4.mono (L':=[P]) (fun x hx=>by cases hx)).trans f6).step (Bo x6 B (vI k2) (vI a2) (vS nm2) (vI n2) (vS s2) (.slice A52 n52 c52) (.slice A62 n62 c62)) (fun x hx => .inr (by simp at hx;omega)));have HP:=Hz ((hst2).frL (Bo x6 B (vI k2) (vI a2) (vS nm2) (vI n2) (vS s2) (.slice A52 n52 c52) (.slice A62 n62 c62)) (by simpa using nP) (by simpa using ng));have HX:Hid (Bd (st7 x6 B (vI k2) (vI a2) (vS nm2) (vI n2) (vS s2) (.slice A52 n52 c52) (.slice A62 n62 c62)) (fun b=>B≤b) (.mk k2 a2 nm2 n2 s2 ls2 args2) [vI k2,vI a2,vS nm2,vI n2,vS s2,.slice A52 n52 c52,.slice A62 n62 c62]):=Hz ((hx2).keep (Sh.of_fr (Bo x6 B (vI k2) (vI a2) (vS nm2) (vI n2) (vS s2) (.slice A52 n52 c52) (.slice A62 n62 c62)) (fun b hb hlt=>⟨by omega,by simp;omega⟩)));unfold st7 at HG HF HP HX;obtain⟨⟨u0,u1,u2,u3,u4,u5,u6⟩,z0,z1,z2,z3,z4,z5,z6⟩:=Aq g0;go_wp2_with fail;generalize ((((((x6.setCell ⟨B,0,none⟩ (vI k2)).setCell ⟨B,1,none⟩ (vI a2)).setCell ⟨B,2,none⟩ (vS nm2)).setCell ⟨B,3,none⟩ (vI n2)).setCell ⟨B,4,none⟩ (vS s2)).setCell ⟨B,5,none⟩ (.slice A52 n52 c52)).setCell ⟨B,6,none⟩ (.slice A62 n62 c62)=Z at HG HF HP HX ⊢;obtain⟨⟨d0,d1,d2,d3,d4,d5,d6⟩,_⟩:=Aq HG.out;refine bodyPost_ret (v:=.agg #[vI k2,vI a2,vS nm2,vI n2,vS s2,.slice A52 n52 c52,.slice A62 n62 c62]) ?_ rfl ?_
  ·simp[results,Tryz.f147,go_sem,d0,d1,d2,d3,d4,d5,d6]
  ·exact⟨_,_,_,_,_,_,_,_,_,_,_,_,_,_,rfl,by rw[hB];exact HX.out,.look HT.out (by rw[HOK.out];exact .callP hr2 .retP),HP.out,HF.out⟩
 | true =>
  rw[hok] at p2;have HOK:=Hz hok
  cases hk:(t.k==3)with
  | false =>
   have HK:=Hz hk;clear hok;go_wp2_with fail;clear p0 p1 p2 hk
   generalize x3.alloc (.cells #[vI t.k,vI t.at',.string ⟨t.text.toArray⟩,vI t.n] 79)=x4 at *
   generalize x3.heap.size=T3 at *
   refine(IHP.out P g c st x4 h4 (by have:=HN.out;omega)).mono ?_;rintro e x6 ⟨k2,a2,nm2,n2,s2,ls2,args2,A52,n52,c52,A62,n62,c62,st2,rfl,hx2,hr2,hst2,f6⟩;have g0:=f6.keep g0 (by simpa using nB);have hx2:=hx2.keep (ok':=fun b=>B<b) (Sh.of_fr (Fr.refl [] x6) (fun b hb hlt=>⟨by have:x4.heap.size≤b:=hb;omega,fun x=>by cases x⟩));have hBT:=Aa g0;have HG:=Hz (Cx g0 (vI k2) (vI a2) (vS nm2) (vI n2) (vS s2) (.slice A52 n52 c52) (.slice A62 n62 c62));have HF:=Hz (((f4.mono (L':=[P]) (fun x hx=>by cases hx)).trans f6).step (Bo x6 B (vI k2) (vI a2) (vS nm2) (vI n2) (vS s2) (.slice A52 n52 c52) (.slice A62 n62 c62)) (fun x hx => .inr (by simp at hx;omega)));have HP:=Hz ((hst2).frL (Bo x6 B (vI k2) (vI a2) (vS nm2) (vI n2) (vS s2) (.slice A52 n52 c52) (.slice A62 n62 c62)) (by simpa using nP) (by simpa using ng));have HX:Hid (Bd (st7 x6 B (vI k2) (vI a2) (vS nm2) (vI n2) (vS s2) (.slice A52 n52 c52) (.slice A62 n62 c62)) (fun b=>B≤b) (.mk k2 a2 nm2 n2 s2 ls2 args2) [vI k2,vI a2,vS nm2,vI n2,vS s2,.slice A52 n52 c52,.slice A62 n62 c62]):=Hz ((hx2).keep (Sh.of_fr (Bo x6 B (vI k2) (vI a2) (vS nm2) (vI n2) (vS s2) (.slice A52 n52 c52) (.slice A62 n62 c62)) (fun b hb hlt=>⟨by omega,by simp;omega⟩)));unfold st7 at HG HF HP HX;obtain⟨⟨u0,u1,u2,u3,u4,u5,u6⟩,z0,z1,z2,z3,z4,z5,z6⟩:=Aq g0;go_wp2_with fail;generalize ((((((x6.setCell ⟨B,0,none⟩ (vI k2)).setCell ⟨B,1,none⟩ (vI a2)).setCell ⟨B,2,none⟩ (vS nm2)).setCell ⟨B,3,none⟩ (vI n2)).setCell ⟨B,4,none⟩ (vS s2)).setCell ⟨B,5,none⟩ (.slice A52 n52 c52)).setCell ⟨B,6,none⟩ (.slice A62 n62 c62)=Z at HG HF HP HX ⊢;obtain⟨⟨d0,d1,d2,d3,d4,d5,d6⟩,_⟩:=Aq HG.out;refine bodyPost_ret (v:=.agg #[vI k2,vI a2,vS nm2,vI n2,vS s2,.slice A52 n52 c52,.slice A62 n62 c62]) ?_ rfl ?_
   ·simp[results,Tryz.f147,go_sem,d0,d1,d2,d3,d4,d5,d6]
   ·exact⟨_,_,_,_,_,_,_,_,_,_,_,_,_,_,rfl,by rw[hB];exact HX.out,.look HT.out (by rw[HOK.out,HK.out];exact .callP hr2 .retP),HP.out,HF.out⟩
  | true =>
   have HK:=Hz hk;have hk0:t.k≠0:=by have:=beq_iff_eq.1 hk;omega
   have cx:=fun w h=>Hz (Dw P g c ts st t ht hok hk0 w h HE.out)
   clear hok hk0;go_wp2_with fail;clear p0 p1 p2 hk
   generalize x3.alloc (.cells #[vI t.k,vI t.at',.string ⟨t.text.toArray⟩,vI t.n] 79)=x4 at *
   generalize x3.heap.size=T3 at *
   refine(cx x4 h4).out.mono ?_;rintro e x5 ⟨rfl,h5,f5⟩;have g0:=f5.keep g0 (by simpa using nB);have q3:=f5.keep q3 (by simp;omega);have hs5:=f5.size;have F5:Fr [P] w x5:=(f4.mono (fun x hx=>by cases hx)).trans f5;have cS:=fun W hW=>Hz (IHP.out P g c ⟨st.i+1,st.ok⟩ W hW (by have:=HN.out;have:=h5.inb;simp only at this ⊢;omega))
   obtain⟨m0,m1,m2,m3,_⟩:=Ao q3;have n3B:¬ T3=B:=by omega
   have nB3:¬ B=T3:=by omega
   clear cx ht;go_wp2_with fail
   go_region_held3 (fun w'=>w'.cell? ⟨T3,1,none⟩=some (vI t.at')∧w'.cell? ⟨T3,2,none⟩=some (.string ⟨t.text.toArray⟩)) (first|go_keep|exact⟨M6.2.1,M6.2.2.1⟩) (((with_reducible refine(cS _ (h5.fr (Fr.refl [] x5).drew)).out.mono ?_);rintro e x6 ⟨k2,a2,nm2,n2,s2,ls2,args2,A52,n52,c52,A62,n62,c62,st2,rfl,hx2,hr2,hst2,f6⟩;have Q6:=f6.keep (w:=x5.drew) q3 (by simp;omega);have hT6:=Aa Q6;have M6:=Ao Q6;have G6:=f6.keep (w:=x5.drew) g0 (by simpa using nB);have hB6:=Aa G6;obtain⟨⟨u0,u1,u2,u3,u4,u5,u6⟩,z0,z1,z2,z3,z4,z5,z6⟩:=Aq G6))
   clear m0 m1 m2 m3 M6;have f6:Fr [P] x5 x6:=((Fr.refl [P] x5).drew).trans f6;clear u0 u1 u2 u3 u4 u5 u6 z0 z1 z2 z3 z4 z5 z6;have hx2:=hx2.keep (ok':=fun b=>B<b) (Sh.of_fr (Fr.refl [] x6) (fun b hb hlt=>⟨by have:x5.heap.size≤b:=hb;omega,fun x=>by cases x⟩));have HG:=Hz (Cx G6 (vI 8) (vI t.at') (.string ⟨t.text.toArray⟩) (vI 0) (vE) (vZ) (.slice (some ⟨x6.heap.size,0,none⟩) 1 1));have HF:=Hz ((F5.trans f6).step (Bo x6 B (vI 8) (vI t.at') (.string ⟨t.text.toArray⟩) (vI 0) (vE) (vZ) (.slice (some ⟨x6.heap.size,0,none⟩) 1 1)) (fun x hx => .inr (by simp at hx;omega)));have HP:=Hz ((hst2).frL (Bo x6 B (vI 8) (vI t.at') (.string ⟨t.text.toArray⟩) (vI 0) (vE) (vZ) (.slice (some ⟨x6.heap.size,0,none⟩) 1 1)) (by simpa using nP) (by simpa using ng));have HS:=Hz (st7_size x6 B (vI 8) (vI t.at') (.string ⟨t.text.toArray⟩) (vI 0) (vE) (vZ) (.slice (some ⟨x6.heap.size,0,none⟩) 1 1));have HX:Hid (Bd (st7 x6 B (vI 8) (vI t.at') (.string ⟨t.text.toArray⟩) (vI 0) (vE) (vZ) (.slice (some ⟨x6.heap.size,0,none⟩) 1 1)) (fun b=>B≤b) (.mk k2 a2 nm2 n2 s2 ls2 args2) [vI k2,vI a2,vS nm2,vI n2,vS s2,.slice A52 n52 c52,.slice A62 n62 c62]):=Hz ((hx2).keep (Sh.of_fr (Bo x6 B (vI 8) (vI t.at') (.string ⟨t.text.toArray⟩) (vI 0) (vE) (vZ) (.slice (some ⟨x6.heap.size,0,none⟩) 1 1)) (fun b hb hlt=>⟨by omega,by simp;omega⟩)));unfold st7 at HG HF HP HS HX;generalize ((((((x6.setCell ⟨B,0,none⟩ (vI 8)).setCell ⟨B,1,none⟩ (vI t.at')).setCell ⟨B,2,none⟩ (.string ⟨t.text.toArray⟩)).setCell ⟨B,3,none⟩ (vI 0)).setCell ⟨B,4,none⟩ (vE)).setCell ⟨B,5,none⟩ (vZ)).setCell ⟨B,6,none⟩ (.slice (some ⟨x6.heap.size,0,none⟩) 1 1)=Z at HG HF HP HS HX ⊢;obtain⟨⟨d0,d1,d2,d3,d4,d5,d6⟩,_⟩:=Aq (Af HG.out (.cells #[vI k2,vI a2,vS nm2,vI n2,vS s2,.slice A52 n52 c52,.slice A62 n62 c62] 25));have hBZ:B≤Z.heap.size:=by have:=Aa HG.out;omega
   have row:=Al.lit G5 (T:=25) (size:=7) HX.out rfl (ok:=fun b=>B≤b) hBZ;rw[HS.out] at row;have hxx:=Bd.of_rows (k:=8) (a:=t.at') (nm:=t.text) (n:=0) (s:=[]) (c5:=fun _=>[]) Al.nil_ row;go_wp2_with fail;refine bodyPost_ret (v:=.agg #[vI 8,vI t.at',.string ⟨t.text.toArray⟩,vI 0,vE,vZ,.slice (some ⟨x6.heap.size,0,none⟩) 1 1]) ?_ rfl ?_
   ·simp[results,Tryz.f147,go_sem,d0,d1,d2,d3,d4,d5,d6]
   ·exact⟨_,_,_,_,_,_,_,_,_,_,_,_,_,_,rfl,by rw[hB];exact hxx,.look HT.out (by rw[HOK.out,HK.out];exact .adv (.callP hr2 .retP)),HP.out.fr ((Fr.refl [] Z).alloc _),HF.out.alloc _⟩
theorem De(t:Tok)(st:St)(s:LB):st.i≤(Bq t st s).i:=by unfold Bq;split <;> simp
theorem Hm(t:Tok)(st:St):st.i≤(Dr t st).i:=by unfold Dr;split <;> simp
theorem fn_any(ts:List Tok)(hE:B8 ts)(N:Nat)(ih:Fo ts N)(P g c:Nat)(st:St)(w:World)(h:PSt P g c ts st w)(t:Tok)(ht:ts[st.i]?=some t)(hm:16 *(ts.length-(Bq t st [102,117,110]).i)+13<N):Calls prog 117 #[.pointer (some ⟨P,0,none⟩)] w (Il P g c ts st (body .fn) w):=by
 have H:=Hz h;have hP:=Aa h.blk;have hgl:=h.lt;have hin:=h.inb;have HN:=Hz hm;have HE:=Hz hE;have IH:=Hz ih;clear h hm hE ih;go_enter func117,ntmps117;go_wp2_with fail;have f0:Fr [] w (w.alloc (.cells #[vI 0,vI 0,vE,vI 0,vE,vZ,vZ,vZ] 35)):=(Fr.refl [] w).alloc _;have g0:=Ad w (.cells #[vI 0,vI 0,vE,vI 0,vE,vZ,vZ,vZ] 35)
 generalize w.alloc (.cells #[vI 0,vI 0,vE,vI 0,vE,vZ,vZ,vZ] 35)=w1 at *
 generalize hB:w.heap.size=B at *
 have hB1:=Aa g0;have nP:¬ P=B:=by omega
 have nB:¬ B=P:=by omega
 have ng:¬ g=B:=by omega
 have r1:=Xz;refine(B7 P g c ts st t ht w1 (H.out.fr f0) HE.out).mono ?_;rintro e x3 ⟨rfl,f3⟩;go_wp2_with fail;have hTB:=Aa (f3.keep g0 nE);have q4:=Ad x3 (.cells #[vI 7,vI t.at',vE,vI 0,vE,vZ,vZ,vZ] 35);have fb4:Fr [] x3 (x3.alloc (.cells #[vI 7,vI t.at',vE,vI 0,vE,vZ,vZ,vZ] 35)):=(Fr.refl [] x3).alloc _
 generalize x3.alloc (.cells #[vI 7,vI t.at',vE,vI 0,vE,vZ,vZ,vZ] 35)=x4 at *
 have hT4:=Aa q4
 generalize x3.heap.size=T at *
 have f4:=(f0.trans f3).trans fb4;have g0:=(f3.trans fb4).keep g0 nE;have h4:=H.out.fr f4;clear r1 f0 f3 fb4;have nT1:¬ B=T:=by omega
 have nT2:¬ T=B:=by omega
 have nT3:¬ T=P:=by omega
 refine(B3 [102,117,110] P g c ts st t ht x4 h4 HE.out).mono ?_;rintro e x5 ⟨rfl,h5,f5⟩;go_wp2_with fail;have g0:=f5.keep g0 (by simpa using nB);have q4:=f5.keep q4 (by simpa using nT3);have F5:=(f4.mono (L':=[P]) (fun x hx=>by cases hx)).trans f5;obtain⟨u,hu⟩:=A4 h5.inb;refine(Hw P g c ts (Bq t st [102,117,110]) u hu x5 h5 HE.out).mono ?_;rintro e x6 ⟨rfl,h6,f6⟩;have g0:=f6.keep g0 (by simpa using nB);have q4:=f6.keep q4 (by simpa using nT3);have F6:=F5.trans f6;obtain⟨⟨m0,m1,m2,m3,m4,m5,m6,m7⟩,j0,j1,j2,j3,j4,j5,j6,j7⟩:=Ac q4;have q7:(x6.setCell ⟨T,2,none⟩ (.string ⟨(nameT u (Bq t st [102,117,110])).toArray⟩)).heap[T]?=some (.cells #[vI 7,vI t.at',.string ⟨(nameT u (Bq t st [102,117,110])).toArray⟩,vI 0,vE,vZ,vZ,vZ] 35 (0,0)):=Bn q4 2 _;have fs:=(Fr.refl [T] x6).setCell (p:=⟨T,2,none⟩) (.inl (by simp)) (.string ⟨(nameT u (Bq t st [102,117,110])).toArray⟩);have g0:=fs.keep g0 (by simpa using nT1);have h7:=h6.frL fs (by simp;omega) (by simp;omega);have F7:=F6.step fs (fun x hx => .inr (by simp at hx;omega));have HQ:=Hz q7;clear q4 q7 fs;go_wp2_with fail;clear m0 m1 m2 m3 m4 m5 m6 m7 j0 j1 j2 j3 j4 j5 j6 j7;have q4:=HQ.out
 generalize x6.setCell ⟨T,2,none⟩ (.string ⟨(nameT u (Bq t st [102,117,110])).toArray⟩)=x7 at *
 obtain⟨v,hv⟩:=A4 h7.inb;refine(B3 [45,62] P g c ts (Dr u (Bq t st [102,117,110])) v hv x7 h7 HE.out).mono ?_;rintro e x8 ⟨rfl,h8,f8⟩;go_wp2_with fail;have g0:=f8.keep g0 (by simpa using nB);have q4:=f8.keep q4 (by simpa using nT3);have hT8:=Aa q4;have F8:=F7.trans f8;have hle1:=Hm u (Bq t st [102,117,110]);have hle2:=De v (Dr u (Bq t st [102,117,110])) [45,62];refine(IH.out.seq P g c (Bq v (Dr u (Bq t st [102,117,110])) [45,62]) x8 h8 (by have:=HN.out;have:=h8.inb;omega)).mono ?_;rintro e x9 ⟨k2,a2,nm2,n2,s2,ls2,args2,arms2,A52,n52,c52,A62,n62,c62,A72,n72,c72,st2,rfl,hx2,hr2,hst2,f9⟩;have g0:=f9.keep g0 (by simpa using nB);have q4:=f9.keep q4 (by simpa using nT3);have F9:=F8.trans f9;have hx2:=hx2.keep (ok':=fun b=>B<b∧¬ b=T∧¬ b=P) (Sh.of_fr (Fr.refl [] x9) (fun b hb hlt=>⟨by have:x8.heap.size≤b:=hb;exact⟨by omega,by omega,by omega⟩,fun x=>by cases x⟩));obtain⟨⟨m0,m1,m2,m3,m4,m5,m6,m7⟩,j0,j1,j2,j3,j4,j5,j6,j7⟩:=Ac q4;obtain⟨⟨l0,l1,l2,l3,l4,l5,l6,l7⟩,y0,y1,y2,y3,y4,y5,y6,y7⟩:=Ac g0;have hT9:=Aa q4;have hB9:=Aa g0;have fs:=(Fr.refl [T] x9).setCell (p:=⟨T,6,none⟩) (.inl (by simp)) (.slice (some ⟨x9.heap.size,0,none⟩) 1 1);have g0:=fs.keep g0 (by simpa using nT1);have h10:=hst2.frL fs (by simp;omega) (by simp;omega);have F10:=F9.step fs (fun x hx => .inr (by simp at hx;omega));have hx2:=hx2.keep (ok':=fun b=>B<b∧¬ b=P) (Sh.of_fr fs (fun b hb hlt=>⟨⟨hb.1,hb.2.2⟩,by simp;exact hb.2.1⟩));have HG:=Hz (Ar g0 (vI 7) (vI t.at') (.string ⟨(nameT u (Bq t st [102,117,110])).toArray⟩) (vI 0) (vE) (vZ) (.slice (some ⟨x9.heap.size,0,none⟩) 1 1) (vZ));have HF:=Hz ((F10).step (Ai (x9.setCell ⟨T,6,none⟩ (.slice (some ⟨x9.heap.size,0,none⟩) 1 1)) B (vI 7) (vI t.at') (.string ⟨(nameT u (Bq t st [102,117,110])).toArray⟩) (vI 0) (vE) (vZ) (.slice (some ⟨x9.heap.size,0,none⟩) 1 1) (vZ)) (fun x hx => .inr (by simp at hx;omega)));have HP:=Hz ((h10).frL (Ai (x9.setCell ⟨T,6,none⟩ (.slice (some ⟨x9.heap.size,0,none⟩) 1 1)) B (vI 7) (vI t.at') (.string ⟨(nameT u (Bq t st [102,117,110])).toArray⟩) (vI 0) (vE) (vZ) (.slice (some ⟨x9.heap.size,0,none⟩) 1 1) (vZ)) (by simpa using nP) (by simpa using ng));have HS:Hid ((st8 (x9.setCell ⟨T,6,none⟩ (.slice (some ⟨x9.heap.size,0,none⟩) 1 1)) B (vI 7) (vI t.at') (.string ⟨(nameT u (Bq t st [102,117,110])).toArray⟩) (vI 0) (vE) (vZ) (.slice (some ⟨x9.heap.size,0,none⟩) 1 1) (vZ)).heap.size=x9.heap.size):=Hz ((Es _ _ _ _ _ _ _ _ _ _).trans (by simp[World.setCell]));have HX2:Hid (Aj (st8 (x9.setCell ⟨T,6,none⟩ (.slice (some ⟨x9.heap.size,0,none⟩) 1 1)) B (vI 7) (vI t.at') (.string ⟨(nameT u (Bq t st [102,117,110])).toArray⟩) (vI 0) (vE) (vZ) (.slice (some ⟨x9.heap.size,0,none⟩) 1 1) (vZ)) (fun b=>B≤b) (.mk k2 a2 nm2 n2 s2 ls2 args2 arms2) [vI k2,vI a2,vS nm2,vI n2,vS s2,.slice A52 n52 c52,.slice A62 n62 c62,.slice A72 n72 c72]):=Hz ((hx2).keep (Sh.of_fr (Ai (x9.setCell ⟨T,6,none⟩ (.slice (some ⟨x9.heap.size,0,none⟩) 1 1)) B (vI 7) (vI t.at') (.string ⟨(nameT u (Bq t st [102,117,110])).toArray⟩) (vI 0) (vE) (vZ) (.slice (some ⟨x9.heap.size,0,none⟩) 1 1) (vZ)) (fun b hb hlt=>⟨by omega,by simp;omega⟩)));unfold st8 at HG HF HP HS HX2;go_wp2_with fail;generalize ((((((((x9.setCell ⟨T,6,none⟩ (.slice (some ⟨x9.heap.size,0,none⟩) 1 1)).setCell ⟨B,0,none⟩ (vI 7)).setCell ⟨B,1,none⟩ (vI t.at')).setCell ⟨B,2,none⟩ (.string ⟨(nameT u (Bq t st [102,117,110])).toArray⟩)).setCell ⟨B,3,none⟩ (vI 0)).setCell ⟨B,4,none⟩ (vE)).setCell ⟨B,5,none⟩ (vZ)).setCell ⟨B,6,none⟩ (.slice (some ⟨x9.heap.size,0,none⟩) 1 1)).setCell ⟨B,7,none⟩ (vZ)=Z at HG HF HP HS HX2 ⊢;obtain⟨⟨d0,d1,d2,d3,d4,d5,d6,d7⟩,_⟩:=Ac (Af HG.out (.cells #[vI k2,vI a2,vS nm2,vI n2,vS s2,.slice A52 n52 c52,.slice A62 n62 c62,.slice A72 n72 c72] 35));have hBZ:B≤Z.heap.size:=by have:=Aa HG.out;omega
 have row:=Al.lit An (T:=35) (size:=8) HX2.out rfl (ok:=fun b=>B≤b) hBZ;rw[HS.out] at row;have hxx:=Aj.of_rows (k:=7) (a:=t.at') (nm:=nameT u (Bq t st [102,117,110])) (n:=0) (s:=[]) (c5:=fun _=>[]) (c7:=fun _=>[]) Al.nil_ row Al.nil_;refine bodyPost_ret (v:=.agg #[vI 7,vI t.at',.string ⟨(nameT u (Bq t st [102,117,110])).toArray⟩,vI 0,vE,vZ,.slice (some ⟨x9.heap.size,0,none⟩) 1 1,vZ]) ?_ rfl ?_
 ·simp[results,Tryz.f117,go_sem,d0,d1,d2,d3,d4,d5,d6,d7]
 ·exact⟨_,_,_,_,_,_,_,_,_,_,_,_,_,_,_,_,_,_,rfl,by rw[hB];exact hxx,.look ht (.must_ ht (.name_ hu (.must_ hv (.callE hr2 .retE)))),HP.out.fr ((Fr.refl [] Z).alloc _),HF.out.alloc _⟩
theorem fn_step(ts:List Tok)(hE:B8 ts)(N:Nat)(ih:Fo ts N):GE ts (N+1) 14 .fn 117:=fun P g c st w h hm=>by
 obtain⟨t,ht⟩:=A4 h.inb;exact fn_any ts hE N ih P g c st w h t ht (by have:=De t st [102,117,110];omega)
def GF(ts:List Tok)(N:Nat):Prop:=∀ (P g c:Nat)(st:St)(w:World)(t:Tok),PSt P g c ts st w→ts[st.i]?=some t→isB t st.ok [[102,117,110]]=true→16 *(ts.length-st.i)<N→Calls prog 117 #[.pointer (some ⟨P,0,none⟩)] w (Il P g c ts st (body .fn) w)
theorem fn0_step(ts:List Tok)(hE:B8 ts)(N:Nat)(ih:Fo ts N):GF ts (N+1):=fun P g c st w t h ht hb hm=>by
 refine fn_any ts hE N ih P g c st w h t ht ?_;have:=h.inb;unfold Bq;rw[if_pos hb];simp only;omega
end
mutual
def eqP(pl:Bool):Ak→Ak→Bool
 | .mk k a nm n s ls args,.mk k' a' nm' n' s' ls' args'=>k==k'&&(!pl||a==a')&&nm==nm'&&n==n'&&s==s'&&ls==ls'&&args.length==args'.length&&N2 pl args args'
def N2(pl:Bool):List Ak→List Ak→Bool
 | x::l,y::m=>eqP pl x y&&N2 pl l m
 | [],_=>true
 | _::_,[]=>true
end
theorem eqP_mk(pl:Bool)(k a:Int)(nm:LB)(n:Int)(s:LB)(ls:List LB)(args:List Ak)(k' a':Int)(nm':LB)(n':Int)(s':LB)(ls':List LB)(args':List Ak):
  eqP pl (.mk k a nm n s ls args) (.mk k' a' nm' n' s' ls' args')=(k==k'&&(!pl||a==a')&&nm==nm'&&n==n'&&s==s'&&ls==ls'&&args.length==args'.length&&N2 pl args args'):=by rw[eqP]
theorem Nr(w:World)(o:Obj):(w.alloc o).heap.size=w.heap.size+1:=by simp
theorem Nl{α:Type}{l:List α}{i:Nat}{x:α}(h:l[i]?=some x):l.drop i=x::l.drop (i+1):=by
 obtain⟨hi,e⟩:=List.getElem?_eq_some_iff.1 h;rw[← e,List.drop_eq_getElem_cons hi]
section
variable {pl:Bool} {i:Nat}
theorem eqPs_at{l m:List Ak}{x y:Ak}(h1:l[i]?=some x)(h2:m[i]?=some y):N2 pl (l.drop i) (m.drop i)=(eqP pl x y&&N2 pl (l.drop (i+1)) (m.drop (i+1))):=by rw[Nl h1,Nl h2];rfl
theorem eqPs_end{l m:List Ak}(h:l.length≤i):N2 pl (l.drop i) m=true:=by rw[List.drop_eq_nil_of_le h];cases m <;> rfl
end
theorem kcell{w w':World}{p:Addr}{v:Value}(f:Fr [] w w')(h:w.cell? p=some v)(hlt:p.block<w.heap.size):w'.cell? p=some v:=(f.cell hlt (fun x=>by cases x)).trans h
theorem textsB(ls ls':List LB)(hls:ls.length≤1099511627776)(hls':ls'.length≤1099511627776)(A A':Option Addr)(c c':Nat)(w:World){ok ok':Nat→Prop}{cs cs':Nat→List Value}(h:Dy w ok (.slice A ls.length c) ls.length 1 cs)(e:∀ (i:Nat)(x:LB),ls[i]?=some x→cs i=Of x)
  (h':Dy w ok' (.slice A' ls'.length c') ls'.length 1 cs') (e':∀ (i:Nat) (x:LB),ls'[i]?=some x→cs' i=Of x):
  Calls prog 42 #[.slice A ls.length c,.slice A' ls'.length c'] w fun e w'=>e = .returned (.bool (ls==ls'))∧Fr [] w w':=by
 have H:=Hz h;have H':=Hz h';have E:=Hz e;have E':=Hz e';clear h h' e e';by_cases hq:ls.length=ls'.length
 ·rw[← hq] at H' ⊢;have HQ:=Hz hq;have hl:(ls.length:Int)≤1099511627776:=by omega
  have HO:Hid ((ls==ls')=(ls.drop 0==ls'.drop 0)):=Hz rfl
  generalize (ls==ls')=O at *
  clear hq hls';go_enter func42,ntmps42;go_wp2_with fail
  go_loopw [5] (fun iv wr=>∃ i:Nat,iv=vI i∧i≤ls.length∧Fr [] w wr∧Hid (O=(ls.drop i==ls'.drop i))) (fun iv wr=>ls.length-(intOf iv).toNat)
  case atStart=>exact⟨0,rfl,by omega,Fr.refl _ _,HO⟩
  case round =>
   obtain⟨i,rfl,hi,f,HI⟩:=hrel;by_cases hlt:i<ls.length
   ·obtain⟨g,og,rfl,_,hg,_,_,hc⟩:=H.out.row hlt;obtain⟨g',og',rfl,_,hg',_,_,hc'⟩:=H'.out.row hlt
    obtain⟨s,hx⟩:∃ s,ls[i]?=some s:=⟨ls[i],Lg' hlt⟩
    obtain⟨s',hx'⟩:∃ s,ls'[i]?=some s:=⟨ls'[i]'(by rw[← HQ.out];exact hlt),Lg' _⟩
    rw[E.out i _ hx] at hc;rw[E'.out i _ hx'] at hc';have hI:=HI.out;rw[Nl hx,Nl hx',List.cons_beq_cons] at hI;have HJ:=Hz hI;have x0:wr.cell? ⟨g,og+i,none⟩=some (vS s):=(f.cell (p:=⟨g,og+i,none⟩) hg (fun x=>by cases x)).trans (by have:=hc 0 _ rfl;simpa using this);have x1:wr.cell? ⟨g',og'+i,none⟩=some (vS s'):=(f.cell (p:=⟨g',og'+i,none⟩) hg' (fun x=>by cases x)).trans (by have:=hc' 0 _ rfl;simpa using this);clear hc hc' hx hx' hI HI;have q1:(0:Int)≤(i:Int):=by omega
    have q2:(i:Int)<(ls.length:Int):=by omega
    by_cases hs:s=s'
    ·subst hs;go_wp2_with fail;go_quiet (fail);go_wp2_with fail
     go_roundw
     case rel=>exact⟨i+1,by simp,by omega,f.drewN _,Hz (by rw[HJ.out];simp)⟩
     case measure=>simp[intOf];omega
    ·have hb:(s==s')=false:=by rw[bN];exact hs
     have hO:=HJ.out;rw[hb,Bool.false_and] at hO;subst hO;clear HJ HO;go_wp2_with fail;go_quiet (fail);go_wp2_with fail;go_ret;exact⟨rfl,f.drewN _⟩
   ·have ei:i=ls.length:=by omega
    subst ei;have hO:=HI.out;rw[List.drop_eq_nil_of_le (Nr' _),List.drop_eq_nil_of_le (by rw[← HQ.out];exact Nr' _)] at hO;subst hO;go_wp2_with fail;go_ret;exact⟨rfl,f⟩
 ·have hb:(ls==ls')=false:=by rw[bN];exact fun e=>hq (by rw[e])
  rw[hb];have z:((ls.length:Int)!=(ls'.length:Int))=true:=by rw[bne_iff_ne];omega
  clear hb;go_enter func42,ntmps42;go_wp2_with fail;go_ret;exact⟨rfl,Fr.refl _ _⟩
section
attribute [local go_sem ↓] Go.wp_at_zero Go.wp_at_succ
theorem Vs{w0 W:World}{g o:Nat}(hg:g<w0.heap.size)(hf:Fr [] w0 W){v0 v1 v2 v3 v4 v5 v6:Value}(hc:∀ (j:Nat)(v:Value),[v0,v1,v2,v3,v4,v5,v6][j]?=some v→w0.cell? ⟨g,o+j,none⟩=some v):
  W.cell? ⟨g,o,none⟩=some v0∧W.cell? ⟨g,o+1,none⟩=some v1∧W.cell? ⟨g,o+2,none⟩=some v2∧W.cell? ⟨g,o+3,none⟩=some v3∧W.cell? ⟨g,o+4,none⟩=some v4∧W.cell? ⟨g,o+5,none⟩=some v5∧W.cell? ⟨g,o+6,none⟩=some v6:=by
 have h:∀ (j:Nat) (v:Value),[v0,v1,v2,v3,v4,v5,v6][j]?=some v→W.cell? ⟨g,o+j,none⟩=some v:=fun j v hv=>kcell hf (hc j v hv) hg
 exact⟨h 0 _ rfl,h 1 _ rfl,h 2 _ rfl,h 3 _ rfl,h 4 _ rfl,h 5 _ rfl,h 6 _ rfl⟩
theorem Fh{w0 W:World}{g o:Nat}(hg:g<w0.heap.size)(hf:Fr [] w0 W){v0 v1 v2 v3 v4 v5 v6 v7 v8 v9 v10 v11 v12 v13 v14:Value}(hc:∀ (j:Nat)(v:Value),[v0,v1,v2,v3,v4,v5,v6,v7,v8,v9,v10,v11,v12,v13,v14][j]?=some v→w0.cell? ⟨g,o+j,none⟩=some v):
  W.cell? ⟨g,o,none⟩=some v0∧W.cell? ⟨g,o+1,none⟩=some v1∧W.cell? ⟨g,o+2,none⟩=some v2∧W.cell? ⟨g,o+3,none⟩=some v3∧W.cell? ⟨g,o+4,none⟩=some v4∧W.cell? ⟨g,o+5,none⟩=some v5∧W.cell? ⟨g,o+6,none⟩=some v6∧W.cell? ⟨g,o+7,none⟩=some v7∧W.cell? ⟨g,o+8,none⟩=some v8∧W.cell? ⟨g,o+9,none⟩=some v9∧W.cell? ⟨g,o+10,none⟩=some v10∧W.cell? ⟨g,o+11,none⟩=some v11∧W.cell? ⟨g,o+12,none⟩=some v12∧W.cell? ⟨g,o+13,none⟩=some v13∧W.cell? ⟨g,o+14,none⟩=some v14:=by
 have h:∀ (j:Nat) (v:Value),[v0,v1,v2,v3,v4,v5,v6,v7,v8,v9,v10,v11,v12,v13,v14][j]?=some v→W.cell? ⟨g,o+j,none⟩=some v:=fun j v hv=>kcell hf (hc j v hv) hg
 exact⟨h 0 _ rfl,h 1 _ rfl,h 2 _ rfl,h 3 _ rfl,h 4 _ rfl,h 5 _ rfl,h 6 _ rfl,h 7 _ rfl,h 8 _ rfl,h 9 _ rfl,h 10 _ rfl,h 11 _ rfl,h 12 _ rfl,h 13 _ rfl,h 14 _ rfl⟩
def SQP(N:Nat):Prop:=∀ (k a:Int)(nm:LB)(n:Int)(s:LB)(ls:List LB)(args:List Ak)(A5 A6:Option Addr)(cc5 cc6:Nat)(k' a':Int)(nm':LB)(n':Int)(s':LB)(ls':List LB)(args':List Ak)(A5' A6':Option Addr)(cc5' cc6':Nat)(pl:Bool)(w:World)(ok ok':Nat→Prop),laP (.mk k a nm n s ls args)<N→laP (.mk k a nm n s ls args)≤1099511627776→laP (.mk k' a' nm' n' s' ls' args')≤1099511627776 →
  Bd w ok (.mk k a nm n s ls args) [vI k,vI a,vS nm,vI n,vS s,.slice A5 ls.length cc5,.slice A6 args.length cc6]→Bd w ok' (.mk k' a' nm' n' s' ls' args') [vI k',vI a',vS nm',vI n',vS s',.slice A5' ls'.length cc5',.slice A6' args'.length cc6'] →
  Calls prog 20 #[.agg #[vI k,vI a,vS nm,vI n,vS s,.slice A5 ls.length cc5,.slice A6 args.length cc6],.agg #[vI k',vI a',vS nm',vI n',vS s',.slice A5' ls'.length cc5',.slice A6' args'.length cc6'],.bool pl] w fun e w'=>e = .returned (.bool (eqP pl (.mk k a nm n s ls args) (.mk k' a' nm' n' s' ls' args')))∧Fr [] w w'
theorem eqp_step(N:Nat)(ih:SQP N):SQP (N+1):=by
 intro k a nm n s ls args A5 A6 cc5 cc6 k' a' nm' n' s' ls' args' A5' A6' cc5' cc6' pl w ok ok' hN hz hz' hx hy
 cases hx with
 | mk c5 c6 h5 e5 h6 e6 =>
 cases hy with
 | mk d5 d6 h5' e5' h6' e6' =>
 have hsz:laP (.mk k a nm n s ls args)=1+ls.length+Hd args:=by simp[laP]
 have hsz':laP (.mk k' a' nm' n' s' ls' args')=1+ls'.length+Hd args':=by simp[laP]
 rw[hsz] at hN hz;rw[hsz'] at hz';clear hsz hsz';have hm6:(args.length:Int)≤1099511627776:=by have:=Yp args;omega
 have hm6':(args'.length:Int)≤1099511627776:=by have:=Yp args';omega
 have IH:=Hz ih;have H6:=Hz h6;have H6':=Hz h6';have E6:Hid (∀ (i:Nat) (x:Ak),args[i]?=some x→Bd w ok x (c6 i)):=Hz e6;have E6':Hid (∀ (i:Nat) (x:Ak),args'[i]?=some x→Bd w ok' x (d6 i)):=Hz e6';have cT:=fun W (hW:Fr [] w W)=>Hz (textsB ls ls' (by omega) (by omega) A5 A5' cc5 cc5' W (h5.keep (ok':=ok) (Sh.of_fr hW (fun b hb _=>⟨hb,fun x=>by cases x⟩))) e5 (h5'.keep (ok':=ok') (Sh.of_fr hW (fun b hb _=>⟨hb,fun x=>by cases x⟩))) e5')
 clear ih h5 e5 h6 e6 h5' e5' h6' e6';have HO:=Hz (eqP_mk pl k a nm n s ls args k' a' nm' n' s' ls' args')
 generalize eqP pl (.mk k a nm n s ls args) (.mk k' a' nm' n' s' ls' args')=O at *
 generalize hQ:(ls==ls')=Q at *
 have HQ:=Hz hQ;clear hQ;by_cases t:k=k'
 rotate_left
 ·have z:(k != k')=true:=by rw[bne_iff_ne];exact t
  have zb:(k==k')=false:=by rw[bN];exact t
  have hO:=HO.out;simp[zb] at hO;subst hO;clear HO zb;go_enter func20,ntmps20;go_wp2_with fail;go_ret;exact⟨rfl,((Fr.refl [] w).alloc _).alloc _⟩
 subst t;have hpl:(pl=true∧a≠a')∨pl=false∨(pl=true∧a=a'):=by cases pl <;> by_cases e:a=a' <;> simp[e]
 rcases hpl with⟨rfl,t⟩| hpl
 ·have z:(a != a')=true:=by rw[bne_iff_ne];exact t
  have zb:(a==a')=false:=by rw[bN];exact t
  have hO:=HO.out;simp[zb] at hO;subst hO;clear HO zb;go_enter func20,ntmps20;go_wp2_with fail;go_ret;exact⟨rfl,((Fr.refl [] w).alloc _).alloc _⟩
 obtain⟨pl0,hp0⟩:∃ b:Bool,b=pl:=⟨_,rfl⟩
 rcases hpl with rfl|⟨rfl,rfl⟩
 all_goals
  by_cases t:nm=nm'
  rotate_left
  ·have z:(nm==nm')=false:=by rw[bN];exact t
   have zb:=z;have hO:=HO.out;simp[zb] at hO;subst hO;clear HO zb;go_enter func20,ntmps20;go_wp2_with fail;go_ret;exact⟨rfl,((Fr.refl [] w).alloc _).alloc _⟩
  subst t;by_cases t:n=n'
  rotate_left
  ·have z:(n != n')=true:=by rw[bne_iff_ne];exact t
   have zb:(n==n')=false:=by rw[bN];exact t
   have hO:=HO.out;simp[zb] at hO;subst hO;clear HO zb;go_enter func20,ntmps20;go_wp2_with fail;go_ret;exact⟨rfl,((Fr.refl [] w).alloc _).alloc _⟩
  subst t;by_cases t:s=s'
  rotate_left
  ·have z:(s==s')=false:=by rw[bN];exact t
   have zb:=z;have hO:=HO.out;simp[zb] at hO;subst hO;clear HO zb;go_enter func20,ntmps20;go_wp2_with fail;go_ret;exact⟨rfl,((Fr.refl [] w).alloc _).alloc _⟩
  subst t;cases Q
  ·have hO:=HO.out;simp at hO;subst hO;clear HO;go_enter func20,ntmps20;go_wp2_with fail;refine(cT _ (((Fr.refl [] w).alloc _).alloc _)).out.mono ?_;rintro e w1 ⟨rfl,f1⟩;go_wp2_with fail;go_ret;exact⟨rfl,(((Fr.refl [] w).alloc _).alloc _).trans f1⟩
  obtain rfl:ls=ls':=by have:=HQ.out;simpa using this
  clear HQ;by_cases t:args.length=args'.length
  rotate_left
  ·have z:((args.length:Int)!=(args'.length:Int))=true:=by rw[bne_iff_ne];omega
   have zb:(args.length==args'.length)=false:=by rw[bN];exact t
   have hO:=HO.out;simp[zb] at hO;subst hO;clear HO zb;go_enter func20,ntmps20;go_wp2_with fail;refine(cT _ (((Fr.refl [] w).alloc _).alloc _)).out.mono ?_;rintro e w1 ⟨rfl,f1⟩;have q3:=f1.keep (Af (Ad w _) _) nE;have q4:=f1.keep (Ad (w.alloc _) _) nE;rw[Nr] at q4;have hT2:w.heap.size+2≤w1.heap.size:=by have:=f1.size;simp at this;omega
   have t6:=Ae q3 6;have t6':=Ae q4 6;go_wp2_with fail;go_ret;exact⟨rfl,(((Fr.refl [] w).alloc _).alloc _).trans f1⟩
  have HO1:Hid (O=(N2 pl0 (args.drop 0) (args'.drop 0))):=Hz (by have:=HO.out;rw[hp0];simpa [t] using this);have HTL:=Hz t;have HP0:=Hz hp0;rw[← t] at H6';clear t HO hp0;go_enter func20,ntmps20;go_wp2_with fail;refine(cT _ (((Fr.refl [] w).alloc _).alloc _)).out.mono ?_;rintro e w1 ⟨rfl,f1⟩;have q3:=f1.keep (Af (Ad w _) _) nE;have q4:=f1.keep (Ad (w.alloc _) _) nE;rw[Nr] at q4;have hT2:w.heap.size+2≤w1.heap.size:=by have:=f1.size;simp at this;omega
  rw[← HTL.out] at q4;have f:=(((Fr.refl [] w).alloc _).alloc _).trans f1;clear f1 cT;have t6:=Ae q3 6;have t6':=Ae q4 6;go_wp2_with fail;clear t6 t6'
  go_loopw [7] (fun iv wq=>∃ i:Nat,iv=vI i∧i≤args.length∧Fr [] w1 wq∧Hid (O=(N2 pl0 (args.drop i) (args'.drop i)))) (fun iv wq=>args.length-(intOf iv).toNat)
  case atStart=>exact⟨0,rfl,by omega,Fr.refl _ _,HO1⟩
  case round =>
   obtain⟨i,rfl,hi,fr,HI⟩:=hrel;have q3:=fr.keep q3 nE;have q4:=fr.keep q4 nE;have f:=f.trans fr;have hTw:w.heap.size+2≤wr.heap.size:=Nat.le_trans hT2 fr.size
   generalize hT:w.heap.size=T at *
   have t6:=Ae q3 6;have t6':=Ae q4 6;by_cases hlt:i<args.length
   ·obtain⟨g,og,rfl,_,hg,_,_,hc⟩:=H6.out.row hlt;obtain⟨g',og',rfl,_,hg',_,_,hc'⟩:=H6'.out.row hlt
    obtain⟨x,hx⟩:∃ x,args[i]?=some x:=⟨args[i],Lg' hlt⟩
    obtain⟨y,hy⟩:∃ y,args'[i]?=some y:=⟨args'[i]'(by rw[← HTL.out];exact hlt),Lg' _⟩
    have hI:=HI.out;rw[eqPs_at hx hy] at hI;have hxx:=E6.out i x hx;have hyy:=E6'.out i y hy;have hzx:=U1 hx;have hzy:=U1 hy;clear hx hy HI
    generalize c6 i=ci at *
    generalize d6 i=di at *
    have hxxw:=fun W (hW:Fr [] wr W)=>hxx.keep (w':=W) (ok':=ok) (Sh.of_fr (f.trans hW) (fun b hb _=>⟨hb,fun x=>by cases x⟩))
    have hyyw:=fun W (hW:Fr [] wr W)=>hyy.keep (w':=W) (ok':=ok') (Sh.of_fr (f.trans hW) (fun b hb _=>⟨hb,fun x=>by cases x⟩))
    cases hxx with
    | @mk k2 a2 nm2 n2 s2 ls2 args2 v5 v6 _ _ r5 _ r6 _ =>
    obtain⟨A52,cc52,rfl⟩:=r5.form;obtain⟨A62,cc62,rfl⟩:=r6.form;clear r5 r6
    cases hyy with
    | @mk k2' a2' nm2' n2' s2' ls2' args2' v5 v6 _ _ r5 _ r6 _ =>
    obtain⟨A52',cc52',rfl⟩:=r5.form;obtain⟨A62',cc62',rfl⟩:=r6.form;clear r5 r6;have HC:=Hz hc;have HC':=Hz hc';clear hc hc';have cX:=fun W (hW:Fr [] wr W)=>Hz (IH.out k2 a2 nm2 n2 s2 ls2 args2 A52 A62 cc52 cc62 k2' a2' nm2' n2' s2' ls2' args2' A52' A62' cc52' cc62' pl0 W ok ok' (by omega) (by omega) (by omega) (hxxw W hW) (hyyw W hW))
    generalize eqP pl0 (.mk k2 a2 nm2 n2 s2 ls2 args2) (.mk k2' a2' nm2' n2' s2' ls2' args2')=bX at *
    simp only[HP0.out] at cX;have HJ:=Hz hI;clear hI hxxw hyyw hzx hzy;have q1:(0:Int)≤(i:Int):=by omega
    have q2:(i:Int)<(args.length:Int):=by omega
    obtain⟨x0,x1,x2,x3,x4,x5,x6⟩:=Vs hg (f) HC.out;obtain⟨y0,y1,y2,y3,y4,y5,y6⟩:=Vs hg' (f) HC'.out;cases bX
    all_goals
     go_wp2_with fail
     go_region_held3 (fun w'=>w'.cell? ⟨T,6,none⟩=some (.slice (some ⟨g,og,none⟩) args.length cc6)∧w'.cell? ⟨T+1,6,none⟩=some (.slice (some ⟨g',og',none⟩) args.length cc6')∧(w'.cell? ⟨g,og+i * 7,none⟩=some (vI k2)∧w'.cell? ⟨g,og+i * 7+1,none⟩=some (vI a2)∧w'.cell? ⟨g,og+i * 7+2,none⟩=some (vS nm2)∧w'.cell? ⟨g,og+i * 7+3,none⟩=some (vI n2)∧w'.cell? ⟨g,og+i * 7+4,none⟩=some (vS s2)∧w'.cell? ⟨g,og+i * 7+5,none⟩=some (.slice A52 ls2.length cc52)∧w'.cell? ⟨g,og+i * 7+6,none⟩=some (.slice A62 args2.length cc62))∧(w'.cell? ⟨g',og'+i * 7,none⟩=some (vI k2')∧w'.cell? ⟨g',og'+i * 7+1,none⟩=some (vI a2')∧w'.cell? ⟨g',og'+i * 7+2,none⟩=some (vS nm2')∧w'.cell? ⟨g',og'+i * 7+3,none⟩=some (vI n2')∧w'.cell? ⟨g',og'+i * 7+4,none⟩=some (vS s2')∧w'.cell? ⟨g',og'+i * 7+5,none⟩=some (.slice A52' ls2'.length cc52')∧w'.cell? ⟨g',og'+i * 7+6,none⟩=some (.slice A62' args2'.length cc62'))) (first|go_keep|exact⟨t6,t6',⟨x0,x1,x2,x3,x4,x5,x6⟩,⟨y0,y1,y2,y3,y4,y5,y6⟩⟩) (((with_reducible refine(cX _ ((Fr.refl [] wr).drew)).out.mono ?_);rintro e w3 ⟨rfl,f3⟩;have t6:=Ae ((((Fr.refl [] wr).drew).trans f3).keep q3 nE) 6;have t6':=Ae ((((Fr.refl [] wr).drew).trans f3).keep q4 nE) 6;obtain⟨x0,x1,x2,x3,x4,x5,x6⟩:=Vs hg (f.trans (((Fr.refl [] wr).drew).trans f3)) HC.out;obtain⟨y0,y1,y2,y3,y4,y5,y6⟩:=Vs hg' (f.trans (((Fr.refl [] wr).drew).trans f3)) HC'.out))
     go_wp2_with fail
    ·have hO:=HJ.out;simp at hO;subst hO;go_ret;exact⟨rfl,f.trans (((Fr.refl [] wr).drew).trans f3)⟩
    ·go_roundw
     case rel=>exact⟨i+1,by simp,by omega,fr.trans (((Fr.refl [] wr).drew).trans f3),Hz (by have:=HJ.out;simpa using this)⟩
     case measure=>simp[intOf];omega
   ·have ei:i=args.length:=by omega
    subst ei;have hO:=HI.out;rw[eqPs_end (Nr' _)] at hO;subst hO;go_wp2_with fail;go_ret;exact⟨rfl,f⟩
theorem So:∀ N,SQP N
 | 0=>by intro _ _ _ _ _ _ _ _ _ _ _ _ _ _ _ _ _ _ _ _ _ _ _ _ _ _ h;exact absurd h (Nat.not_lt_zero _)
 | N+1=>eqp_step N (So N)
end
theorem Uj{pl:Bool}:∀ {l m:List Ak},N2 pl l m=true↔∀ (i:Nat)(x y:Ak),l[i]?=some x→m[i]?=some y→eqP pl x y=true
 | [],m=>⟨fun _ i x y h=>by simp at h,fun _=>by rw[N2]⟩
 | x::l,[]=>⟨fun _ i x y _ h=>by simp at h,fun _=>by rw[N2]⟩
 | x::l,y::m=>by
  rw[N2,Ba',Uj];constructor
  ·rintro⟨h1,h2⟩ i u v hu hv
   cases i with
   | zero=>cases hu;cases hv;exact h1
   | succ i=>exact h2 i u v (by simpa using hu) (by simpa using hv)
  ·intro h;exact⟨h 0 x y rfl rfl,fun i u v hu hv=>h (i+1) u v (by simpa using hu) (by simpa using hv)⟩
theorem Jk:∀ (N:Nat)(x y:Ak),szP x<N→(eqP false x y=true↔D8 x y)
 | 0,_,_,h=>absurd h (Nat.not_lt_zero _)
 | N+1,.mk k a nm n s ls args,.mk k' a' nm' n' s' ls' args',h=>by
  have hs:szP (.mk k a nm n s ls args)=1+Ey args:=by simp[szP]
  rw[eqP_mk];simp only[Ba',Uj,beq_iff_eq,Bool.not_false,Bool.true_or,and_true];constructor
  ·rintro⟨⟨⟨⟨⟨⟨rfl,rfl⟩,rfl⟩,rfl⟩,rfl⟩,hl⟩,hh⟩;exact .mk hl (fun i u v hu hv=>(Jk N u v (by have:=Gz hu;omega)).1 (hh i u v hu hv))
  ·intro hh
   cases hh with
   | mk hl hh=>exact⟨⟨⟨⟨⟨⟨rfl,rfl⟩,rfl⟩,rfl⟩,rfl⟩,hl⟩,fun i u v hu hv=>(Jk N u v (by have:=Gz hu;omega)).2 (hh i u v hu hv)⟩
end Go.Proofs.YtabhpdhajajoiaaGreatDoor
