/- A part of the proof: P9, Pa, Pb. -/
import Derived.Deep.DrawnRows
import Derived.Test.YtpjkfeehgookkaaGreatDoorGn2
import Derived.Test.YtpjkfeehgookkaaGreatDoorGn7
namespace Go.Proofs.YtpjkfeehgookkaaGreatDoor
open Go.RowKit
open _root_.Go.Proofs.Tryz
set_option linter.all false
set_option maxHeartbeats 16000000
set_option maxRecDepth 100000
section
attribute [local go_sem ↓] Go.wp_at_zero Go.wp_at_succ
def plI(w:World)(P:Nat):Nat:=match w.cell? ⟨P,1,none⟩with
 | some (.int _ n)=>n.toNat
 | _=>0
theorem PSt.pl{P g c:Nat}{ts:List Tok}{st:St}{w:World}(h:PSt P g c ts st w):plI w P=st.i:=by
 unfold plI;rw[(C2 h.blk).2.1];simp
theorem Mm(t:Tok)(st:St):st.i≤(Cd t st).i:=by unfold Cd;split <;> simp
theorem P7(ts:List Tok)(hE:Be ts)(N:Nat)(ih:Dp ts N):GE ts (N+1) 4 .post 56:=by
 intro P g c st w h hm;have H:=Hz h;have hP:=Aa h.blk;have hgl:=h.lt;have hin:=h.inb;have HN:=Hz hm;have HE:=Hz hE;have IH:=Hz ih;clear h hm hE ih;go_enter func56,ntmps56;go_wp2_with fail;have f0:Fr [] w (w.alloc (.cells #[vI 0,vI 0,vE,vI 0,vE,vZ,vZ,vZ] 27)):=(Fr.refl [] w).alloc _;have g0:=Ab w (.cells #[vI 0,vI 0,vE,vI 0,vE,vZ,vZ,vZ] 27)
 generalize w.alloc (.cells #[vI 0,vI 0,vE,vI 0,vE,vZ,vZ,vZ] 27)=w1 at *
 generalize hB:w.heap.size=B at *
 have hB1:=Aa g0;have nP:¬ P=B:=by omega
 have nB:¬ B=P:=by omega
 have ng:¬ g=B:=by omega
 obtain⟨t,ht⟩:=At hin;refine(Bd P g c ts st t ht w1 (H.out.fr f0) HE.out).mono ?_;rintro e x3 ⟨rfl,f3⟩;go_wp2_with fail;have q3:=Ab x3 (.cells #[vI t.k,vI t.at',.string ⟨t.text.toArray⟩,vI t.n] 46);have fb4:Fr [] x3 (x3.alloc (.cells #[vI t.k,vI t.at',.string ⟨t.text.toArray⟩,vI t.n] 46)):=(Fr.refl [] x3).alloc _
 generalize x3.alloc (.cells #[vI t.k,vI t.at',.string ⟨t.text.toArray⟩,vI t.n] 46)=x4 at *
 have hT4:=Aa q3;have hs3:=f3.size
 generalize x3.heap.size=T3 at *
 have f4:=(f0.trans f3).trans fb4;have g0:=(f3.trans fb4).keep g0 nE;have h4:=H.out.fr f4
 cases hb:isB t st.ok [[33]] with
 | true =>
  refine(may_yes [33] P g c ts st t ht hb x4 h4 HE.out).mono ?_;rintro e x5 ⟨rfl,h5,f5⟩;have g0:=f5.keep g0 (by simpa using nB);have q3:=f5.keep q3 (by simp;omega);have hs5:=f5.size;have F5:Fr [P] w x5:=(f4.mono (fun x hx=>by cases hx)).trans f5;have cS:=fun W hW=>Hz (IH.out.post P g c ⟨st.i+1,st.ok⟩ W hW (by have:=HN.out;have:=h5.inb;simp only at this ⊢;omega))
  obtain⟨m0,m1,m2,m3,_⟩:=Am q3;have n3B:¬ T3=B:=by omega
  have nB3:¬ B=T3:=by omega
  go_wp2_with fail
  go_region_held3 (fun w'=>w'.cell? ⟨T3,0,none⟩=some (vI t.k)∧w'.cell? ⟨T3,1,none⟩=some (vI t.at')∧w'.cell? ⟨T3,2,none⟩=some (.string ⟨t.text.toArray⟩)∧w'.cell? ⟨T3,3,none⟩=some (vI t.n)) (first|go_keep|exact⟨M7.1,M7.2.1,M7.2.2.1,M7.2.2.2.1⟩| exact⟨M6.1,M6.2.1,M6.2.2.1,M6.2.2.2.1⟩) ((first|(go_at_call 58;refine(Gj _ t _ _ _ _).mono ?_;rintro e x7 ⟨rfl,f7⟩;have Q7:=f7.keep (Ad Q6 (.cells #[vI k2,vI a2,vS nm2,vI n2,vS s2,.slice A52 n52 c52,.slice A62 n62 c62,.slice A72 n72 c72] 27)) nE;have hT7:=Aa Q7;have M7:=Am Q7;have G7:=f7.keep (Ad G6 (.cells #[vI k2,vI a2,vS nm2,vI n2,vS s2,.slice A52 n52 c52,.slice A62 n62 c62,.slice A72 n72 c72] 27)) nE;have hB7:=Aa G7;obtain⟨⟨u0,u1,u2,u3,u4,u5,u6,u7⟩,z0,z1,z2,z3,z4,z5,z6,z7⟩:=Ac G7)| (go_at_call 56;refine(cS _ (h5.fr (Fr.refl [] x5).drew)).out.mono ?_;rintro e x6 ⟨k2,a2,nm2,n2,s2,ls2,args2,arms2,A52,n52,c52,A62,n62,c62,A72,n72,c72,st2,rfl,hx2,hr2,hst2,f6⟩;have Q6:=f6.keep (w:=x5.drew) q3 (by simp;omega);have hT6:=Aa Q6;have M6:=Am Q6;have G6:=f6.keep (w:=x5.drew) g0 (by simpa using nB);have hB6:=Aa G6)))
  clear m0 m1 m2 m3 M6 M7;have f6:Fr [P] x5 x6:=((Fr.refl [P] x5).drew).trans f6;have f7:Fr [] (x6.alloc (.cells #[vI k2,vI a2,vS nm2,vI n2,vS s2,.slice A52 n52 c52,.slice A62 n62 c62,.slice A72 n72 c72] 27)) x7:=f7;have hs6:=f6.size;have hs5:=Aa g0;have row6:=Aj.lit Al (T:=27) (size:=8) (ok:=fun b=>B<b∧¬ b=P) (hx2.keep (Sh.of_fr (Fr.refl [] x6) (fun b hb hlt=>⟨by have:x5.heap.size≤b:=hb;exact⟨by omega,by omega⟩,fun x=>by cases x⟩))) rfl (by exact⟨by omega,by omega⟩);have row7:=Aj.keep (ok':=fun b=>B<b) Al row6 (Sh.of_fr f7 (fun b hb hlt=>⟨hb.1,fun x=>by cases x⟩));have HG:=Hz (An G7 (vI 19) (vI t.at') (vE) (vI 11) (vE) (vZ) (.slice (some ⟨x6.heap.size,0,none⟩) 1 1) (vZ));have HF:=Hz ((F5.trans (f6.trans0 (((Fr.refl [] x6).alloc _).trans f7))).step (Ag x7 B (vI 19) (vI t.at') (vE) (vI 11) (vE) (vZ) (.slice (some ⟨x6.heap.size,0,none⟩) 1 1) (vZ)) (fun x hx => .inr (by simp at hx;omega)));have HP:=Hz (((hst2.fr (((Fr.refl [] x6).alloc _).trans f7))).frL (Ag x7 B (vI 19) (vI t.at') (vE) (vI 11) (vE) (vZ) (.slice (some ⟨x6.heap.size,0,none⟩) 1 1) (vZ)) (by simpa using nP) (by simpa using ng));have HR:=Hz (Aj.keep (ok':=fun b=>B≤b) Al row7 (Sh.of_fr (Ag x7 B (vI 19) (vI t.at') (vE) (vI 11) (vE) (vZ) (.slice (some ⟨x6.heap.size,0,none⟩) 1 1) (vZ)) (fun b hb hlt=>⟨by omega,by simp;omega⟩)));unfold st8 at HG HF HP HR;go_wp2_with fail;generalize (((((((x7.setCell ⟨B,0,none⟩ (vI 19)).setCell ⟨B,1,none⟩ (vI t.at')).setCell ⟨B,2,none⟩ (vE)).setCell ⟨B,3,none⟩ (vI 11)).setCell ⟨B,4,none⟩ (vE)).setCell ⟨B,5,none⟩ (vZ)).setCell ⟨B,6,none⟩ (.slice (some ⟨x6.heap.size,0,none⟩) 1 1)).setCell ⟨B,7,none⟩ (vZ)=Z at HG HF HP HR ⊢;obtain⟨⟨d0,d1,d2,d3,d4,d5,d6,d7⟩,_⟩:=Ac HG.out;have hxx:=Ai.of_rows (k:=19) (a:=t.at') (nm:=[]) (n:=11) (s:=[]) (c5:=fun _=>[]) (c7:=fun _=>[]) Aj.nil_ HR.out Aj.nil_;refine bodyPost_ret (v:=.agg #[vI 19,vI t.at',vE,vI 11,vE,vZ,.slice (some ⟨x6.heap.size,0,none⟩) 1 1,vZ]) ?_ rfl ?_
  ·simp[results,Tryz.f56,go_sem,d0,d1,d2,d3,d4,d5,d6,d7]
  ·exact⟨_,_,_,_,_,_,_,_,_,_,_,_,_,_,_,_,_,_,rfl,by rw[hB];exact hxx,.look ht (.may_yes ht hb (.callE hr2 .retE)),HP.out,HF.out⟩
 | false =>
  refine(may_no [33] P g c ts st t ht hb x4 h4 HE.out).mono ?_;rintro e y5 ⟨rfl,f5⟩;go_wp2_with fail;have g0:=f5.keep g0 nE;have h5:=h4.fr f5;have f5:=f4.trans f5;have hs5:=Aa g0;refine(IH.out.atom P g c st y5 h5 (by have:=HN.out;omega)).mono ?_;rintro e x1 ⟨k1,a1,nm1,n1,s1,ls1,args1,arms1,A51,n51,c51,A61,n61,c61,A71,n71,c71,st1,rfl,hx1,hr1,hst1,f1⟩;have g0:=f1.keep g0 (by simpa using nB);have hGx:=g0;have hs1:=f1.size;have F1:Fr [P] w x1:=(f5.mono (fun x hx=>by cases hx)).trans f1;have hle:=hr1.le;clear q3 hT4 hs3 f4 f3 fb4 h4 h5 f5;go_wp2_with fail;have q1:=Ab x1 (.cells #[vI k1,vI a1,vS nm1,vI n1,vS s1,.slice A51 n51 c51,.slice A61 n61 c61,.slice A71 n71 c71] 27);have fb1:Fr [] x1 (x1.alloc (.cells #[vI k1,vI a1,vS nm1,vI n1,vS s1,.slice A51 n51 c51,.slice A61 n61 c61,.slice A71 n71 c71] 27)):=(Fr.refl [] x1).alloc _
  generalize hY1:x1.alloc (.cells #[vI k1,vI a1,vS nm1,vI n1,vS s1,.slice A51 n51 c51,.slice A61 n61 c61,.slice A71 n71 c71] 27)=x2 at *
  have hT1:=Aa q1
  generalize hTT1:x1.heap.size=T4 at *
  have g0:=fb1.keep g0 nE;have h2:=hst1.fr fb1;have F2:=F1.trans0 fb1;have hx1:=hx1.keep (ok':=fun b=>B<b∧¬ b=T4∧¬ b=P) (Sh.of_fr fb1 (fun b hb hlt=>⟨⟨by omega,by omega,by omega⟩,fun x=>by cases x⟩));have HR0:Hid (∀ x st',Run ts (body (.postL (.mk k1 a1 nm1 n1 s1 ls1 args1 arms1))) st1 (.e x) st'→Run ts (body .post) st (.e x) st'):=Hz (fun x st' h => .look ht (.may_no ht hb (.els (.callE hr1 (.callE h .retE)))));have hBT:B<T4:=by have:=Aa hGx;omega
  clear hst1 hr1 fb1 f1 F1 hs1 H IH HN 
  go_loopw [] (fun wr=>∃ (k0 a0:Int) (nm0:LB) (n0:Int) (s0:LB) (ls0:List LB) (args0:List Ah) (arms0:List (Av×Ah)) (A50:Option Addr) (n50 c50:Nat) (A60:Option Addr) (n60 c60:Nat) (A70:Option Addr) (n70 c70:Nat) (st0:St),Fr [P] w wr∧B<T4∧T4<wr.heap.size∧wr.heap[B]?=some (.cells #[vI 0,vI 0,vE,vI 0,vE,vZ,vZ,vZ] 27 (0,0))∧wr.heap[T4]?=some (.cells #[vI k0,vI a0,vS nm0,vI n0,vS s0,.slice A50 n50 c50,.slice A60 n60 c60,.slice A70 n70 c70] 27 (0,0))∧Ai wr (fun b=>B<b∧¬ b=T4∧¬ b=P) (.mk k0 a0 nm0 n0 s0 ls0 args0 arms0) [vI k0,vI a0,vS nm0,vI n0,vS s0,.slice A50 n50 c50,.slice A60 n60 c60,.slice A70 n70 c70]∧PSt P g c ts st0 wr∧st.i≤st0.i∧Hid (∀ x st',Run ts (body (.postL (.mk k0 a0 nm0 n0 s0 ls0 args0 arms0))) st0 (.e x) st'→Run ts (body .post) st (.e x) st')) (fun wr=>ts.length-plI wr P)
  case atStart=>exact⟨k1,a1,nm1,n1,s1,ls1,args1,arms1,A51,n51,c51,A61,n61,c61,A71,n71,c71,st1,F2,hBT,hT1,g0,q1,hx1,h2,hle,HR0⟩
  case round =>
   obtain⟨k0,a0,nm0,n0,s0,ls0,args0,arms0,A50,n50,c50,A60,n60,c60,A70,n70,c70,st0,F,_,hT,g0,q0,hx0,h0,hle0,HR⟩:=hrel;clear hx1 h2 HR0 q1 F2 hle hT1;obtain⟨u,hu⟩:=At h0.inb;have fa:=(Fr.refl [] wr).alloc (.cells #[.string ⟨[46].toArray⟩] 9);have ci:=fun cl=>Hz (Dx P g c ts st0 u hu wr.heap.size cl [[46]] (by simp) (wr.alloc (.cells #[.string ⟨[46].toArray⟩] 9)) (h0.fr fa) (Dc.one wr [46] _) (by simp) HE.out)
   cases hc:isB u st0.ok [[46]] with
   | false =>
    rw[hc] at ci;go_wp2_with fail;refine(ci _).out.mono ?_;rintro e y1 ⟨rfl,f1⟩;have f1:=fa.trans f1;have g0:=f1.keep g0 nE;obtain⟨⟨l0,l1,l2,l3,l4,l5,l6,l7⟩,_⟩:=Ac (f1.keep q0 nE);have hx0:=hx0.keep (ok':=fun b=>B<b) (Sh.of_fr f1 (fun b hb hlt=>⟨hb.1,fun x=>by cases x⟩));have HG:=Hz (An g0 (vI k0) (vI a0) (vS nm0) (vI n0) (vS s0) (.slice A50 n50 c50) (.slice A60 n60 c60) (.slice A70 n70 c70));have HF:=Hz ((F.trans0 f1).step (Ag y1 B (vI k0) (vI a0) (vS nm0) (vI n0) (vS s0) (.slice A50 n50 c50) (.slice A60 n60 c60) (.slice A70 n70 c70)) (fun x hx => .inr (by simp at hx;omega)));have HP:=Hz (((h0.fr f1)).frL (Ag y1 B (vI k0) (vI a0) (vS nm0) (vI n0) (vS s0) (.slice A50 n50 c50) (.slice A60 n60 c60) (.slice A70 n70 c70)) (by simpa using nP) (by simpa using ng));have HX:Hid (Ai (st8 y1 B (vI k0) (vI a0) (vS nm0) (vI n0) (vS s0) (.slice A50 n50 c50) (.slice A60 n60 c60) (.slice A70 n70 c70)) (fun b=>B≤b) (.mk k0 a0 nm0 n0 s0 ls0 args0 arms0) [vI k0,vI a0,vS nm0,vI n0,vS s0,.slice A50 n50 c50,.slice A60 n60 c60,.slice A70 n70 c70]):=Hz ((hx0).keep (Sh.of_fr (Ag y1 B (vI k0) (vI a0) (vS nm0) (vI n0) (vS s0) (.slice A50 n50 c50) (.slice A60 n60 c60) (.slice A70 n70 c70)) (fun b hb hlt=>⟨by omega,by simp;omega⟩)));unfold st8 at HG HF HP HX;obtain⟨⟨u0,u1,u2,u3,u4,u5,u6,u7⟩,z0,z1,z2,z3,z4,z5,z6,z7⟩:=Ac g0;go_wp2_with fail;generalize (((((((y1.setCell ⟨B,0,none⟩ (vI k0)).setCell ⟨B,1,none⟩ (vI a0)).setCell ⟨B,2,none⟩ (vS nm0)).setCell ⟨B,3,none⟩ (vI n0)).setCell ⟨B,4,none⟩ (vS s0)).setCell ⟨B,5,none⟩ (.slice A50 n50 c50)).setCell ⟨B,6,none⟩ (.slice A60 n60 c60)).setCell ⟨B,7,none⟩ (.slice A70 n70 c70)=Z at HG HF HP HX ⊢;obtain⟨⟨d0,d1,d2,d3,d4,d5,d6,d7⟩,_⟩:=Ac HG.out;refine bodyPost_ret (v:=.agg #[vI k0,vI a0,vS nm0,vI n0,vS s0,.slice A50 n50 c50,.slice A60 n60 c60,.slice A70 n70 c70]) ?_ rfl ?_
    ·simp[results,Tryz.f56,go_sem,d0,d1,d2,d3,d4,d5,d6,d7]
    ·exact⟨_,_,_,_,_,_,_,_,_,_,_,_,_,_,_,_,_,_,rfl,by rw[hB];exact HX.out,HR.out _ _ (.look hu (by rw[if_neg (by rw[hc];decide)];exact .retE)),HP.out,HF.out⟩
   | true =>
    rw[hc] at ci;have HK0:=Hz (Em hc);go_wp2_with fail;refine(ci _).out.mono ?_;rintro e y1 ⟨rfl,f1⟩;go_wp2_with fail;have f1:=fa.trans f1;refine(Ch P g c ts st0 u hu HK0.out.1 HK0.out.2 y1 (h0.fr f1) HE.out).mono ?_;rintro e y2 ⟨rfl,h2,f2⟩;have f2:=(f1.mono (L':=[P]) (fun x hx=>by cases hx)).trans f2;have g0:=f2.keep g0 (by simpa using nB);have q0:=f2.keep q0 (by simp;omega);have F2:=F.trans f2;have hx0:=hx0.keep (ok':=fun b=>B<b∧¬ b=T4∧¬ b=P) (Sh.of_fr f2 (fun b hb hlt=>⟨hb,by simp;omega⟩));go_wp2_with fail;have q5:=Ab y2 (.cells #[vI u.k,vI u.at',.string ⟨u.text.toArray⟩,vI u.n] 46);have fb5:Fr [] y2 (y2.alloc (.cells #[vI u.k,vI u.at',.string ⟨u.text.toArray⟩,vI u.n] 46)):=(Fr.refl [] y2).alloc _;have h3:=h2.fr fb5
    generalize y2.alloc (.cells #[vI u.k,vI u.at',.string ⟨u.text.toArray⟩,vI u.n] 46)=y3 at *
    have hT5:=Aa q5;have hT4y:=Aa q0;have hs3:=fb5.size
    generalize y2.heap.size=T5 at *
    have g0:=fb5.keep g0 nE;have q0:=fb5.keep q0 nE;have F3:=F2.trans0 fb5;have hx0:=hx0.keep (ok':=fun b=>B<b∧¬ b=T4∧¬ b=P) (Sh.of_fr fb5 (fun b hb hlt=>⟨hb,fun x=>by cases x⟩));obtain⟨v,hv⟩:=At h3.inb;have cN:=fun W hW=>Hz (Fb P g c ts ⟨st0.i+1,st0.ok⟩ v hv W hW HE.out)
    obtain⟨⟨l0,l1,l2,l3,l4,l5,l6,l7⟩,_⟩:=Ac q0;obtain⟨m0,m1,m2,m3,_⟩:=Am q5;have n45:¬ T4=T5:=by omega
    have n54:¬ T5=T4:=by omega
    refine Au (fun w'=>(w'.cell? ⟨T4,0,none⟩=some (vI k0)∧w'.cell? ⟨T4,1,none⟩=some (vI a0)∧w'.cell? ⟨T4,2,none⟩=some (vS nm0)∧w'.cell? ⟨T4,3,none⟩=some (vI n0)∧w'.cell? ⟨T4,4,none⟩=some (vS s0)∧w'.cell? ⟨T4,5,none⟩=some (.slice A50 n50 c50)∧w'.cell? ⟨T4,6,none⟩=some (.slice A60 n60 c60)∧w'.cell? ⟨T4,7,none⟩=some (.slice A70 n70 c70))∧w'.cell? ⟨T5,1,none⟩=some (vI u.at')) (by kernel_rfl) (by kernel_rfl) ?hS8 (fun K hK hHeld=>?hr8)
    case hS8=>go_keep
    refine Ae (i:=0) (v:=?v9) rfl (by kernel_rfl) (by kernel_rfl) (by kernel_rfl) (fun _ _ _ h=>h) (Or.inl ⟨by rfl,?hy9⟩) (by assumption) ?hr9
    case hy9 =>
     intro w' hSw
     (try dsimp only at hSw)
     go_simp
     (try with_reducible rfl)
    (try simp only[Act.put,sX])
    refine Ae (i:=1) (v:=?v10) rfl (by kernel_rfl) (by kernel_rfl) (by kernel_rfl) (fun _ _ _ h=>h) (Or.inl ⟨by rfl,?hy10⟩) (by assumption) ?hr10
    case hy10 =>
     intro w' hSw
     (try dsimp only at hSw)
     go_simp
     (try with_reducible rfl)
    (try simp only[Act.put,sX])
    refine Ae (i:=2) (v:=?v11) rfl (by kernel_rfl) (by kernel_rfl) (by kernel_rfl) (fun _ _ _ h=>h) (Or.inl ⟨by rfl,?hy11⟩) (by assumption) ?hr11
    case hy11 =>
     intro w' hSw
     (try dsimp only at hSw)
     go_simp
     (try with_reducible rfl)
    (try simp only[Act.put,sX])
    refine Ae (i:=4) (v:=?v12) rfl (by kernel_rfl) (by kernel_rfl) (by kernel_rfl) (fun _ _ _ h=>h) (Or.inl ⟨by rfl,?hy12⟩) (by assumption) ?hr12
    case hy12 =>
     intro w' hSw
     (try dsimp only at hSw)
     go_simp
     (try with_reducible rfl)
    (try simp only[Act.put,sX])
    refine wpAnyH_ready (rs:=[3,5]) (by kernel_rfl) (by simp) (Ez (i:=3) rfl (fun K3 hK3=>?hA) (Ez (i:=5) rfl (fun K5 hK5=>?hB) AllReadyH.nil))
    case hA =>
     go_simp;refine(cN _ (h3.fr (Fr.refl [] y3).drew)).out.mono ?_;rintro e y4 ⟨rfl,h4,f4⟩;have Q4:=f4.keep (w:=y3.drew) q0 (by simp;omega);have Q5:=f4.keep (w:=y3.drew) q5 (by simp;omega);have hT44:=Aa Q4;have hT54:=Aa Q5;have M5:=Am Q5;obtain⟨⟨u0,u1,u2,u3,u4,u5,u6,u7⟩,z0,z1,z2,z3,z4,z5,z6,z7⟩:=Ac Q4;go_simp;refine hK3.out _ _ ?hS0 (fun hHeld=>?hq0)
     case hS0=>exact⟨(Ac Q4).1,M5.2.1⟩
     clear hK3 K3
     (try simp only[Act.put,sX])
     refine Ak (i:=5) rfl (by kernel_rfl) (fun K5 hK5=>?hr1);go_simp;refine hK5.out _ _ ?hS1 (fun hHeld=>?hq1)
     case hS1=>exact⟨(Ac (Ad Q4 _)).1,(Am (Ad Q5 _)).2.1⟩
     clear hK5 K5
     (try simp only[Act.put,sX])
     refine Ae (i:=6) (v:=?v2) rfl (by kernel_rfl) (by kernel_rfl) (by kernel_rfl) (fun _ _ _ h=>h) (Or.inl ⟨by rfl,?hy2⟩) (by assumption) ?hr2
     case hy2 =>
      intro w' hSw
      (try dsimp only at hSw)
      go_simp
      (try with_reducible rfl)
     (try simp only[Act.put,sX])
     refine wpAnyH_done (by kernel_rfl) ?hr3 _;refine As rfl ?hq3;go_simp;refine hK.out _ _ ?hs3;clear hK K;clear M5 u0 u1 u2 u3 u4 u5 u6 u7 z0 z1 z2 z3 z4 z5 z6 z7 l0 l1 l2 l3 l4 l5 l6 l7 m0 m1 m2 m3;have f4:Fr [P] y3 y4:=((Fr.refl [P] y3).drew).trans f4;have g0:=f4.keep g0 (by simpa using nB);have hx0:=hx0.keep (ok':=fun b=>B<b∧¬ b=T4∧¬ b=P) (Sh.of_fr f4 (fun b hb hlt=>⟨hb,by simp;exact hb.2.2⟩));have hne4:¬ B=T4:=by omega
     have HG:=Hz (An Q4 (vI 14) (vI u.at') (.string ⟨(Aq v ⟨st0.i+1,st0.ok⟩).toArray⟩) (vI 0) (vE) (vZ) (.slice (some ⟨y4.heap.size,0,none⟩) 1 1) (vZ));have HB0:=Hz ((Ag y4 T4 (vI 14) (vI u.at') (.string ⟨(Aq v ⟨st0.i+1,st0.ok⟩).toArray⟩) (vI 0) (vE) (vZ) (.slice (some ⟨y4.heap.size,0,none⟩) 1 1) (vZ)).keep g0 (by simp;omega));have HF:=Hz ((F3.trans f4).step (Ag y4 T4 (vI 14) (vI u.at') (.string ⟨(Aq v ⟨st0.i+1,st0.ok⟩).toArray⟩) (vI 0) (vE) (vZ) (.slice (some ⟨y4.heap.size,0,none⟩) 1 1) (vZ)) (fun x hx => .inr (by simp at hx;omega)));have HP:=Hz ((h4).frL (Ag y4 T4 (vI 14) (vI u.at') (.string ⟨(Aq v ⟨st0.i+1,st0.ok⟩).toArray⟩) (vI 0) (vE) (vZ) (.slice (some ⟨y4.heap.size,0,none⟩) 1 1) (vZ)) (by simp;omega) (by simp;omega));have HS:=Hz (C5 y4 T4 (vI 14) (vI u.at') (.string ⟨(Aq v ⟨st0.i+1,st0.ok⟩).toArray⟩) (vI 0) (vE) (vZ) (.slice (some ⟨y4.heap.size,0,none⟩) 1 1) (vZ));have HX0:Hid (Ai (st8 y4 T4 (vI 14) (vI u.at') (.string ⟨(Aq v ⟨st0.i+1,st0.ok⟩).toArray⟩) (vI 0) (vE) (vZ) (.slice (some ⟨y4.heap.size,0,none⟩) 1 1) (vZ)) (fun b=>B<b∧¬ b=T4∧¬ b=P) (.mk k0 a0 nm0 n0 s0 ls0 args0 arms0) [vI k0,vI a0,vS nm0,vI n0,vS s0,.slice A50 n50 c50,.slice A60 n60 c60,.slice A70 n70 c70]):=Hz ((hx0).keep (Sh.of_fr (Ag y4 T4 (vI 14) (vI u.at') (.string ⟨(Aq v ⟨st0.i+1,st0.ok⟩).toArray⟩) (vI 0) (vE) (vZ) (.slice (some ⟨y4.heap.size,0,none⟩) 1 1) (vZ)) (fun b hb hlt=>⟨hb,by simp;exact hb.2.1⟩)));unfold st8 at HG HB0 HF HP HS HX0;go_wp2_with fail;generalize (((((((y4.setCell ⟨T4,0,none⟩ (vI 14)).setCell ⟨T4,1,none⟩ (vI u.at')).setCell ⟨T4,2,none⟩ (.string ⟨(Aq v ⟨st0.i+1,st0.ok⟩).toArray⟩)).setCell ⟨T4,3,none⟩ (vI 0)).setCell ⟨T4,4,none⟩ (vE)).setCell ⟨T4,5,none⟩ (vZ)).setCell ⟨T4,6,none⟩ (.slice (some ⟨y4.heap.size,0,none⟩) 1 1)).setCell ⟨T4,7,none⟩ (vZ)=Z at HG HB0 HF HP HS HX0 ⊢;have hZ4:=Aa HG.out;have row:=Aj.lit Al (T:=27) (size:=8) (ok:=fun b=>B<b∧¬ b=T4∧¬ b=P) HX0.out rfl (by exact⟨by omega,by omega,by omega⟩);rw[HS.out] at row;have hxx:=Ai.of_rows (k:=14) (a:=u.at') (nm:=Aq v ⟨st0.i+1,st0.ok⟩) (n:=0) (s:=[]) (c5:=fun _=>[]) (c7:=fun _=>[]) Aj.nil_ row Aj.nil_;have hPz:=HP.out.fr ((Fr.refl [] Z).alloc (.cells #[vI k0,vI a0,vS nm0,vI n0,vS s0,.slice A50 n50 c50,.slice A60 n60 c60,.slice A70 n70 c70] 27));have hpl:=hPz.pl;have hpl0:=h0.pl;have hin0:=h0.inb;have hns:=Mm v ⟨st0.i+1,st0.ok⟩;simp only at hns
     go_roundw
     case rel=>exact⟨14,u.at',Aq v ⟨st0.i+1,st0.ok⟩,0,[],[],[(.mk k0 a0 nm0 n0 s0 ls0 args0 arms0)],[],none,0,0,some ⟨y4.heap.size,0,none⟩,1,1,none,0,0,Cd v ⟨st0.i+1,st0.ok⟩,HF.out.alloc _,hBT,by simp;omega,Ad HB0.out _,Ad HG.out _,hxx,hPz,by omega,Hz (fun x st' h=>HR.out _ _ (.look hu (by rw[if_pos hc];exact .adv (.name_ hv (.callE h .retE)))))⟩
     case measure=>rw[hpl,hpl0];omega
    case hB =>
     go_simp;refine hK5.out _ _ ?hS4 (fun hHeld=>?hq4)
     case hS4=>exact⟨(Ac (Ad q0 _)).1,(Am (Ad q5 _)).2.1⟩
     clear hK5 K5
     (try simp only[Act.put,sX])
     refine Ak (i:=3) rfl (by kernel_rfl) (fun K3 hK3=>?hr5);go_simp;refine(cN _ (h3.fr ((Fr.refl [] y3).alloc _).drew)).out.mono ?_;rintro e y4 ⟨rfl,h4,f4⟩;have Q4:=f4.keep (w:=(y3.alloc (.cells #[vI k0,vI a0,vS nm0,vI n0,vS s0,.slice A50 n50 c50,.slice A60 n60 c60,.slice A70 n70 c70] 27)).drew) (Ad q0 (.cells #[vI k0,vI a0,vS nm0,vI n0,vS s0,.slice A50 n50 c50,.slice A60 n60 c60,.slice A70 n70 c70] 27)) (by simp;omega);have Q5:=f4.keep (w:=(y3.alloc (.cells #[vI k0,vI a0,vS nm0,vI n0,vS s0,.slice A50 n50 c50,.slice A60 n60 c60,.slice A70 n70 c70] 27)).drew) (Ad q5 (.cells #[vI k0,vI a0,vS nm0,vI n0,vS s0,.slice A50 n50 c50,.slice A60 n60 c60,.slice A70 n70 c70] 27)) (by simp;omega);have hT44:=Aa Q4;have hT54:=Aa Q5;have M5:=Am Q5;obtain⟨⟨u0,u1,u2,u3,u4,u5,u6,u7⟩,z0,z1,z2,z3,z4,z5,z6,z7⟩:=Ac Q4;go_simp;refine hK3.out _ _ ?hS5 (fun hHeld=>?hq5)
     case hS5=>exact⟨(Ac Q4).1,M5.2.1⟩
     clear hK3 K3
     (try simp only[Act.put,sX])
     refine Ae (i:=6) (v:=?v6) rfl (by kernel_rfl) (by kernel_rfl) (by kernel_rfl) (fun _ _ _ h=>h) (Or.inl ⟨by rfl,?hy6⟩) (by assumption) ?hr6
     case hy6 =>
      intro w' hSw
      (try dsimp only at hSw)
      go_simp
      (try with_reducible rfl)
     (try simp only[Act.put,sX])
     refine wpAnyH_done (by kernel_rfl) ?hr7 _;refine As rfl ?hq7;go_simp;refine hK.out _ _ ?hs7;clear hK K;clear M5 u0 u1 u2 u3 u4 u5 u6 u7 z0 z1 z2 z3 z4 z5 z6 z7 l0 l1 l2 l3 l4 l5 l6 l7 m0 m1 m2 m3;have f4:Fr [P] (y3.alloc (.cells #[vI k0,vI a0,vS nm0,vI n0,vS s0,.slice A50 n50 c50,.slice A60 n60 c60,.slice A70 n70 c70] 27)) y4:=((Fr.refl [P] _).drew).trans f4;have row3:=Aj.lit Al (T:=27) (size:=8) (ok:=fun b=>B<b∧¬ b=T4∧¬ b=P) hx0 rfl (by exact⟨by omega,by omega,by omega⟩);have row4:=Aj.keep (ok':=fun b=>B<b∧¬ b=T4∧¬ b=P) Al row3 (Sh.of_fr f4 (fun b hb hlt=>⟨hb,by simp;exact hb.2.2⟩));have g0:=f4.keep (Ad g0 (.cells #[vI k0,vI a0,vS nm0,vI n0,vS s0,.slice A50 n50 c50,.slice A60 n60 c60,.slice A70 n70 c70] 27)) (by simpa using nB);have hx0:=hx0.keep (ok':=fun b=>B<b∧¬ b=T4∧¬ b=P) (Sh.of_fr (((Fr.refl [P] y3).alloc (.cells #[vI k0,vI a0,vS nm0,vI n0,vS s0,.slice A50 n50 c50,.slice A60 n60 c60,.slice A70 n70 c70] 27)).trans f4) (fun b hb hlt=>⟨hb,by simp;exact hb.2.2⟩));have hne4:¬ B=T4:=by omega
     have HG:=Hz (An Q4 (vI 14) (vI u.at') (.string ⟨(Aq v ⟨st0.i+1,st0.ok⟩).toArray⟩) (vI 0) (vE) (vZ) (.slice (some ⟨y3.heap.size,0,none⟩) 1 1) (vZ));have HB0:=Hz ((Ag y4 T4 (vI 14) (vI u.at') (.string ⟨(Aq v ⟨st0.i+1,st0.ok⟩).toArray⟩) (vI 0) (vE) (vZ) (.slice (some ⟨y3.heap.size,0,none⟩) 1 1) (vZ)).keep g0 (by simp;omega));have HF:=Hz ((F3.trans (((Fr.refl [P] y3).alloc _).trans f4)).step (Ag y4 T4 (vI 14) (vI u.at') (.string ⟨(Aq v ⟨st0.i+1,st0.ok⟩).toArray⟩) (vI 0) (vE) (vZ) (.slice (some ⟨y3.heap.size,0,none⟩) 1 1) (vZ)) (fun x hx => .inr (by simp at hx;omega)));have HP:=Hz ((h4).frL (Ag y4 T4 (vI 14) (vI u.at') (.string ⟨(Aq v ⟨st0.i+1,st0.ok⟩).toArray⟩) (vI 0) (vE) (vZ) (.slice (some ⟨y3.heap.size,0,none⟩) 1 1) (vZ)) (by simp;omega) (by simp;omega));have HS:=Hz (C5 y4 T4 (vI 14) (vI u.at') (.string ⟨(Aq v ⟨st0.i+1,st0.ok⟩).toArray⟩) (vI 0) (vE) (vZ) (.slice (some ⟨y3.heap.size,0,none⟩) 1 1) (vZ));have HX0:Hid (Ai (st8 y4 T4 (vI 14) (vI u.at') (.string ⟨(Aq v ⟨st0.i+1,st0.ok⟩).toArray⟩) (vI 0) (vE) (vZ) (.slice (some ⟨y3.heap.size,0,none⟩) 1 1) (vZ)) (fun b=>B<b∧¬ b=T4∧¬ b=P) (.mk k0 a0 nm0 n0 s0 ls0 args0 arms0) [vI k0,vI a0,vS nm0,vI n0,vS s0,.slice A50 n50 c50,.slice A60 n60 c60,.slice A70 n70 c70]):=Hz ((hx0).keep (Sh.of_fr (Ag y4 T4 (vI 14) (vI u.at') (.string ⟨(Aq v ⟨st0.i+1,st0.ok⟩).toArray⟩) (vI 0) (vE) (vZ) (.slice (some ⟨y3.heap.size,0,none⟩) 1 1) (vZ)) (fun b hb hlt=>⟨hb,by simp;exact hb.2.1⟩)));have HW0:=Hz (Aj.keep (ok':=fun b=>B<b∧¬ b=T4∧¬ b=P) Al row4 (Sh.of_fr (Ag y4 T4 (vI 14) (vI u.at') (.string ⟨(Aq v ⟨st0.i+1,st0.ok⟩).toArray⟩) (vI 0) (vE) (vZ) (.slice (some ⟨y3.heap.size,0,none⟩) 1 1) (vZ)) (fun b hb hlt=>⟨hb,by simp;exact hb.2.1⟩)));unfold st8 at HG HB0 HF HP HS HX0 HW0;go_wp2_with fail;generalize (((((((y4.setCell ⟨T4,0,none⟩ (vI 14)).setCell ⟨T4,1,none⟩ (vI u.at')).setCell ⟨T4,2,none⟩ (.string ⟨(Aq v ⟨st0.i+1,st0.ok⟩).toArray⟩)).setCell ⟨T4,3,none⟩ (vI 0)).setCell ⟨T4,4,none⟩ (vE)).setCell ⟨T4,5,none⟩ (vZ)).setCell ⟨T4,6,none⟩ (.slice (some ⟨y3.heap.size,0,none⟩) 1 1)).setCell ⟨T4,7,none⟩ (vZ)=Z at HG HB0 HF HP HS HX0 HW0 ⊢;have hZ4:=Aa HG.out;have hxx:=Ai.of_rows (k:=14) (a:=u.at') (nm:=Aq v ⟨st0.i+1,st0.ok⟩) (n:=0) (s:=[]) (c5:=fun _=>[]) (c7:=fun _=>[]) Aj.nil_ HW0.out Aj.nil_;have hPz:=HP.out;have hpl:=hPz.pl;have hpl0:=h0.pl;have hin0:=h0.inb;have hns:=Mm v ⟨st0.i+1,st0.ok⟩;simp only at hns
     go_roundw
     case rel=>exact⟨14,u.at',Aq v ⟨st0.i+1,st0.ok⟩,0,[],[],[(.mk k0 a0 nm0 n0 s0 ls0 args0 arms0)],[],none,0,0,some ⟨y3.heap.size,0,none⟩,1,1,none,0,0,Cd v ⟨st0.i+1,st0.ok⟩,HF.out,hBT,by exact hZ4,HB0.out,HG.out,hxx,hPz,by omega,Hz (fun x st' h=>HR.out _ _ (.look hu (by rw[if_pos hc];exact .adv (.name_ hv (.callE h .retE)))))⟩
     case measure=>rw[hpl,hpl0];omega
theorem S4(ts:List Tok)(hE:Be ts)(N:Nat)(ih:Dp ts N):GE ts (N+1) 8 .sum 132:=by
 intro P g c st w h hm;have H:=Hz h;have hP:=Aa h.blk;have hgl:=h.lt;have hin:=h.inb;have HN:=Hz hm;have HE:=Hz hE;have IH:=Hz ih;clear h hm hE ih;go_enter func132,ntmps132;go_wp2_with fail;have f0:Fr [] w (w.alloc (.cells #[vI 0,vI 0,vE,vI 0,vE,vZ,vZ,vZ] 27)):=(Fr.refl [] w).alloc _;have g0:=Ab w (.cells #[vI 0,vI 0,vE,vI 0,vE,vZ,vZ,vZ] 27)
 generalize w.alloc (.cells #[vI 0,vI 0,vE,vI 0,vE,vZ,vZ,vZ] 27)=w1 at *
 generalize hB:w.heap.size=B at *
 have hB1:=Aa g0;have nP:¬ P=B:=by omega
 have nB:¬ B=P:=by omega
 have ng:¬ g=B:=by omega
 refine(IH.out.prod P g c st w1 (H.out.fr f0) (by have:=HN.out;omega)).mono ?_;rintro e x1 ⟨k1,a1,nm1,n1,s1,ls1,args1,arms1,A51,n51,c51,A61,n61,c61,A71,n71,c71,st1,rfl,hx1,hr1,hst1,f1⟩;have g0:=f1.keep g0 (by simpa using nB);have hGx:=g0;have hs1:=f1.size;have F1:Fr [P] w x1:=(f0.mono (fun x hx=>by cases hx)).trans f1;have hle:=hr1.le;go_wp2_with fail;have q1:=Ab x1 (.cells #[vI k1,vI a1,vS nm1,vI n1,vS s1,.slice A51 n51 c51,.slice A61 n61 c61,.slice A71 n71 c71] 27);have fb1:Fr [] x1 (x1.alloc (.cells #[vI k1,vI a1,vS nm1,vI n1,vS s1,.slice A51 n51 c51,.slice A61 n61 c61,.slice A71 n71 c71] 27)):=(Fr.refl [] x1).alloc _
 generalize hY1:x1.alloc (.cells #[vI k1,vI a1,vS nm1,vI n1,vS s1,.slice A51 n51 c51,.slice A61 n61 c61,.slice A71 n71 c71] 27)=x2 at *
 have hT1:=Aa q1
 generalize hTT1:x1.heap.size=T3 at *
 have g0:=fb1.keep g0 nE;have h2:=hst1.fr fb1;have F2:=F1.trans0 fb1;have hx1:=hx1.keep (ok':=fun b=>B<b∧¬ b=T3∧¬ b=P) (Sh.of_fr fb1 (fun b hb hlt=>⟨⟨by omega,by omega,by omega⟩,fun x=>by cases x⟩));have HR0:Hid (∀ x st',Run ts (body (.sumL (.mk k1 a1 nm1 n1 s1 ls1 args1 arms1))) st1 (.e x) st'→Run ts (body .sum) st (.e x) st'):=Hz (fun x st' h => .callE hr1 (.callE h .retE));have hBT:B<T3:=by have:=Aa hGx;omega
 clear hst1 hr1 fb1 f1 F1 hs1 H hGx
 go_loopw [] (fun wr=>∃ (k0 a0:Int) (nm0:LB) (n0:Int) (s0:LB) (ls0:List LB) (args0:List Ah) (arms0:List (Av×Ah)) (A50:Option Addr) (n50 c50:Nat) (A60:Option Addr) (n60 c60:Nat) (A70:Option Addr) (n70 c70:Nat) (st0:St),Fr [P] w wr∧B<T3∧T3<wr.heap.size∧wr.heap[B]?=some (.cells #[vI 0,vI 0,vE,vI 0,vE,vZ,vZ,vZ] 27 (0,0))∧wr.heap[T3]?=some (.cells #[vI k0,vI a0,vS nm0,vI n0,vS s0,.slice A50 n50 c50,.slice A60 n60 c60,.slice A70 n70 c70] 27 (0,0))∧Ai wr (fun b=>B<b∧¬ b=T3∧¬ b=P) (.mk k0 a0 nm0 n0 s0 ls0 args0 arms0) [vI k0,vI a0,vS nm0,vI n0,vS s0,.slice A50 n50 c50,.slice A60 n60 c60,.slice A70 n70 c70]∧PSt P g c ts st0 wr∧st.i≤st0.i∧Hid (∀ x st',Run ts (body (.sumL (.mk k0 a0 nm0 n0 s0 ls0 args0 arms0))) st0 (.e x) st'→Run ts (body .sum) st (.e x) st')) (fun wr=>ts.length-plI wr P)
 case atStart=>exact⟨k1,a1,nm1,n1,s1,ls1,args1,arms1,A51,n51,c51,A61,n61,c61,A71,n71,c71,st1,F2,hBT,hT1,g0,q1,hx1,h2,hle,HR0⟩
 case round =>
  obtain⟨k0,a0,nm0,n0,s0,ls0,args0,arms0,A50,n50,c50,A60,n60,c60,A70,n70,c70,st0,F,_,hT,g0,q0,hx0,h0,hle0,HR⟩:=hrel;clear hx1 h2 HR0 q1 F2 hle hT1;obtain⟨u,hu⟩:=At h0.inb;have fa:=(Fr.refl [] wr).alloc (.cells #[.string ⟨[43].toArray⟩,.string ⟨[45].toArray⟩] 9);have hSt:Dc wr.heap.size [[43],[45]] (wr.alloc (.cells #[.string ⟨[43].toArray⟩,.string ⟨[45].toArray⟩] 9)):=Dc.lit wr [[43],[45]] _;have ci:=fun cl=>Hz (Dx P g c ts st0 u hu wr.heap.size cl [[43],[45]] (by simp) (wr.alloc (.cells #[.string ⟨[43].toArray⟩,.string ⟨[45].toArray⟩] 9)) (h0.fr fa) hSt (by simp) HE.out)
  clear hSt
  cases hc:isB u st0.ok [[43],[45]] with
  | false =>
   rw[hc] at ci;go_wp2_with fail;refine(ci _).out.mono ?_;rintro e y1 ⟨rfl,f1⟩;have f1:=fa.trans f1;have g0:=f1.keep g0 nE;obtain⟨⟨l0,l1,l2,l3,l4,l5,l6,l7⟩,_⟩:=Ac (f1.keep q0 nE);have hx0:=hx0.keep (ok':=fun b=>B<b) (Sh.of_fr f1 (fun b hb hlt=>⟨hb.1,fun x=>by cases x⟩));have HG:=Hz (An g0 (vI k0) (vI a0) (vS nm0) (vI n0) (vS s0) (.slice A50 n50 c50) (.slice A60 n60 c60) (.slice A70 n70 c70));have HF:=Hz ((F.trans0 f1).step (Ag y1 B (vI k0) (vI a0) (vS nm0) (vI n0) (vS s0) (.slice A50 n50 c50) (.slice A60 n60 c60) (.slice A70 n70 c70)) (fun x hx => .inr (by simp at hx;omega)));have HP:=Hz (((h0.fr f1)).frL (Ag y1 B (vI k0) (vI a0) (vS nm0) (vI n0) (vS s0) (.slice A50 n50 c50) (.slice A60 n60 c60) (.slice A70 n70 c70)) (by simpa using nP) (by simpa using ng));have HX:Hid (Ai (st8 y1 B (vI k0) (vI a0) (vS nm0) (vI n0) (vS s0) (.slice A50 n50 c50) (.slice A60 n60 c60) (.slice A70 n70 c70)) (fun b=>B≤b) (.mk k0 a0 nm0 n0 s0 ls0 args0 arms0) [vI k0,vI a0,vS nm0,vI n0,vS s0,.slice A50 n50 c50,.slice A60 n60 c60,.slice A70 n70 c70]):=Hz ((hx0).keep (Sh.of_fr (Ag y1 B (vI k0) (vI a0) (vS nm0) (vI n0) (vS s0) (.slice A50 n50 c50) (.slice A60 n60 c60) (.slice A70 n70 c70)) (fun b hb hlt=>⟨by omega,by simp;omega⟩)));unfold st8 at HG HF HP HX;obtain⟨⟨u0,u1,u2,u3,u4,u5,u6,u7⟩,z0,z1,z2,z3,z4,z5,z6,z7⟩:=Ac g0;go_wp2_with fail;generalize (((((((y1.setCell ⟨B,0,none⟩ (vI k0)).setCell ⟨B,1,none⟩ (vI a0)).setCell ⟨B,2,none⟩ (vS nm0)).setCell ⟨B,3,none⟩ (vI n0)).setCell ⟨B,4,none⟩ (vS s0)).setCell ⟨B,5,none⟩ (.slice A50 n50 c50)).setCell ⟨B,6,none⟩ (.slice A60 n60 c60)).setCell ⟨B,7,none⟩ (.slice A70 n70 c70)=Z at HG HF HP HX ⊢;obtain⟨⟨d0,d1,d2,d3,d4,d5,d6,d7⟩,_⟩:=Ac HG.out;refine bodyPost_ret (v:=.agg #[vI k0,vI a0,vS nm0,vI n0,vS s0,.slice A50 n50 c50,.slice A60 n60 c60,.slice A70 n70 c70]) ?_ rfl ?_
   ·simp[results,Tryz.f132,go_sem,d0,d1,d2,d3,d4,d5,d6,d7]
   ·exact⟨_,_,_,_,_,_,_,_,_,_,_,_,_,_,_,_,_,_,rfl,by rw[hB];exact HX.out,HR.out _ _ (.look hu (by rw[if_neg (by rw[hc];decide)];exact .retE)),HP.out,HF.out⟩
  | true =>
   rw[hc] at ci;have HK0:=Hz (Em hc);go_wp2_with fail;refine(ci _).out.mono ?_;rintro e y1 ⟨rfl,f1⟩;go_wp2_with fail;have f1:=fa.trans f1;refine(Ch P g c ts st0 u hu HK0.out.1 HK0.out.2 y1 (h0.fr f1) HE.out).mono ?_;rintro e y2 ⟨rfl,h2,f2⟩;have f2:=(f1.mono (L':=[P]) (fun x hx=>by cases hx)).trans f2;have g0:=f2.keep g0 (by simpa using nB);have q0:=f2.keep q0 (by simp;omega);have F2:=F.trans f2;have hx0:=hx0.keep (ok':=fun b=>B<b∧¬ b=T3∧¬ b=P) (Sh.of_fr f2 (fun b hb hlt=>⟨hb,by simp;omega⟩));go_wp2_with fail;have q5:=Ab y2 (.cells #[vI u.k,vI u.at',.string ⟨u.text.toArray⟩,vI u.n] 46);have fb5:Fr [] y2 (y2.alloc (.cells #[vI u.k,vI u.at',.string ⟨u.text.toArray⟩,vI u.n] 46)):=(Fr.refl [] y2).alloc _;have h3:=h2.fr fb5
   generalize y2.alloc (.cells #[vI u.k,vI u.at',.string ⟨u.text.toArray⟩,vI u.n] 46)=y3 at *
   have hT5:=Aa q5;have hT4y:=Aa q0;have hs3:=fb5.size
   generalize y2.heap.size=T5 at *
   have g0:=fb5.keep g0 nE;have q0:=fb5.keep q0 nE;have F3:=F2.trans0 fb5;have hx0:=hx0.keep (ok':=fun b=>B<b∧¬ b=T3∧¬ b=P∧b<y3.heap.size) (Sh.of_fr fb5 (fun b hb hlt=>⟨⟨hb.1,hb.2.1,hb.2.2,by have:=fb5.size;omega⟩,fun x=>by cases x⟩));have cE:=fun W hW=>Hz (IH.out.prod P g c ⟨st0.i+1,st0.ok⟩ W hW (by have:=HN.out;have:=h3.inb;simp only at this ⊢;omega))
   obtain⟨⟨l0,l1,l2,l3,l4,l5,l6,l7⟩,_⟩:=Ac q0;obtain⟨m0,m1,m2,m3,_⟩:=Am q5;have n45:¬ T3=T5:=by omega
   have n54:¬ T5=T3:=by omega
   clear F2 h2 f2 f1 fa ci;refine Ft (fun w'=>(w'.cell? ⟨T3,0,none⟩=some (vI k0)∧w'.cell? ⟨T3,1,none⟩=some (vI a0)∧w'.cell? ⟨T3,2,none⟩=some (vS nm0)∧w'.cell? ⟨T3,3,none⟩=some (vI n0)∧w'.cell? ⟨T3,4,none⟩=some (vS s0)∧w'.cell? ⟨T3,5,none⟩=some (.slice A50 n50 c50)∧w'.cell? ⟨T3,6,none⟩=some (.slice A60 n60 c60)∧w'.cell? ⟨T3,7,none⟩=some (.slice A70 n70 c70))∧w'.cell? ⟨T5,0,none⟩=some (vI u.k)∧w'.cell? ⟨T5,1,none⟩=some (vI u.at')∧w'.cell? ⟨T5,2,none⟩=some (.string ⟨u.text.toArray⟩)∧w'.cell? ⟨T5,3,none⟩=some (vI u.n)) (by kernel_rfl) (by kernel_rfl) ?hS0 (fun K hK hHeld=>?hr0)
   case hS0=>go_keep
   refine Ae (i:=0) (v:=?v1) rfl (by kernel_rfl) (by kernel_rfl) (by kernel_rfl) (fun _ _ _ h=>h) (Or.inl ⟨by rfl,?hy1⟩) (by assumption) ?hr1
   case hy1 =>
    intro w' hSw
    (try dsimp only at hSw)
    go_simp
    (try with_reducible rfl)
   (try simp only[Act.put,sX])
   refine Ae (i:=1) (v:=?v2) rfl (by kernel_rfl) (by kernel_rfl) (by kernel_rfl) (fun _ _ _ h=>h) (Or.inl ⟨by rfl,?hy2⟩) (by assumption) ?hr2
   case hy2 =>
    intro w' hSw
    (try dsimp only at hSw)
    go_simp
    (try with_reducible rfl)
   (try simp only[Act.put,sX])
   refine Ae (i:=3) (v:=?v3) rfl (by kernel_rfl) (by kernel_rfl) (by kernel_rfl) (fun _ _ _ h=>h) (Or.inl ⟨by rfl,?hy3⟩) (by assumption) ?hr3
   case hy3 =>
    intro w' hSw
    (try dsimp only at hSw)
    go_simp
    (try with_reducible rfl)
   (try simp only[Act.put,sX])
   refine Ae (i:=4) (v:=?v4) rfl (by kernel_rfl) (by kernel_rfl) (by kernel_rfl) (fun _ _ _ h=>h) (Or.inl ⟨by rfl,?hy4⟩) (by assumption) ?hr4
   case hy4 =>
    intro w' hSw
    (try dsimp only at hSw)
    go_simp
    (try with_reducible rfl)
   (try simp only[Act.put,sX])
   refine Ae (i:=5) (v:=?v5) rfl (by kernel_rfl) (by kernel_rfl) (by kernel_rfl) (fun _ _ _ h=>h) (Or.inl ⟨by rfl,?hy5⟩) (by assumption) ?hr5
   case hy5 =>
    intro w' hSw
    (try dsimp only at hSw)
    go_simp
    (try with_reducible rfl)
   (try simp only[Act.put,sX])
   refine Ak (i:=2) rfl (by kernel_rfl) (fun K2 hK2=>?hr6);go_simp;refine(Hi u.text _).mono ?_;rintro e w9 ⟨rfl,rfl⟩;go_simp;refine hK2.out _ _ ?hS6 (fun hHeld=>?hq6)
   case hS6=>go_keep
   clear hK2 K2
   (try simp only[Act.put,sX])
   refine Ak (i:=6) rfl (by kernel_rfl) (fun K6 hK6=>?hr7);go_simp;refine(cE _ (h3.fr (Fr.refl [] y3).drew)).out.mono ?_;rintro e y4 ⟨k2,a2,nm2,n2,s2,ls2,args2,arms2,A52,n52,c52,A62,n62,c62,A72,n72,c72,st2,rfl,hx2,hr2,hst2,f4⟩;have Q4:=f4.keep (w:=y3.drew) q0 (by simp;omega);have Q5:=f4.keep (w:=y3.drew) q5 (by simp;omega);have hT44:=Aa Q4;have hT54:=Aa Q5;have M5:=Am Q5;obtain⟨⟨v0,v1,v2,v3,v4,v5,v6,v7⟩,_⟩:=Ac Q4;go_simp;refine hK6.out _ _ ?hS7 (fun hHeld=>?hq7)
   case hS7=>exact⟨(Ac Q4).1,M5.1,M5.2.1,M5.2.2.1,M5.2.2.2.1⟩
   clear hK6 K6
   (try simp only[Act.put,sX])
   refine Ak (i:=7) rfl (by kernel_rfl) (fun K7 hK7=>?hr8);go_simp;refine hK7.out _ _ ?hS8 (fun hHeld=>?hq8)
   case hS8=>exact⟨(Ac (Ad Q4 _)).1,(Am (Ad Q5 _)).1,(Am (Ad Q5 _)).2.1,(Am (Ad Q5 _)).2.2.1,(Am (Ad Q5 _)).2.2.2.1⟩
   clear hK7 K7
   (try simp only[Act.put,sX])
   refine Ak (i:=8) rfl (by kernel_rfl) (fun K8 hK8=>?hr9);go_simp;refine(Gj _ u _ _ _ _).mono ?_;rintro e y5 ⟨rfl,f5⟩;have R4:=f5.keep (Ad Q4 (.cells #[vI k0,vI a0,vS nm0,vI n0,vS s0,.slice A50 n50 c50,.slice A60 n60 c60,.slice A70 n70 c70,vI k2,vI a2,vS nm2,vI n2,vS s2,.slice A52 n52 c52,.slice A62 n62 c62,.slice A72 n72 c72] 27)) nE;have R5:=f5.keep (Ad Q5 (.cells #[vI k0,vI a0,vS nm0,vI n0,vS s0,.slice A50 n50 c50,.slice A60 n60 c60,.slice A70 n70 c70,vI k2,vI a2,vS nm2,vI n2,vS s2,.slice A52 n52 c52,.slice A62 n62 c62,.slice A72 n72 c72] 27)) nE;have hT45:=Aa R4;have hT55:=Aa R5;have M6:=Am R5;obtain⟨⟨u0,u1,u2,u3,u4,u5,u6,u7⟩,z0,z1,z2,z3,z4,z5,z6,z7⟩:=Ac R4;go_simp;refine hK8.out _ _ ?hS9 (fun hHeld=>?hq9)
   case hS9=>exact⟨(Ac R4).1,M6.1,M6.2.1,M6.2.2.1,M6.2.2.2.1⟩
   clear hK8 K8
   (try simp only[Act.put,sX])
   refine wpAnyH_done (by kernel_rfl) ?hr10 _;refine As rfl ?hq10;go_simp;refine hK.out _ _ ?hs10;clear hK K
   all_goals
    clear M5 M6 u0 u1 u2 u3 u4 u5 u6 u7 z0 z1 z2 z3 z4 z5 z6 z7 l0 l1 l2 l3 l4 l5 l6 l7 m0 m1 m2 m3 v0 v1 v2 v3 v4 v5 v6 v7;have f4:Fr [P] y3 y4:=((Fr.refl [P] y3).drew).trans f4;have f5:Fr [] (y4.alloc (.cells #[vI k0,vI a0,vS nm0,vI n0,vS s0,.slice A50 n50 c50,.slice A60 n60 c60,.slice A70 n70 c70,vI k2,vI a2,vS nm2,vI n2,vS s2,.slice A52 n52 c52,.slice A62 n62 c62,.slice A72 n72 c72] 27)) y5:=f5;have hs4:=f4.size;have hx0:=hx0.keep (ok':=fun b=>B<b∧¬ b=T3∧¬ b=P) (Sh.of_fr f4 (fun b hb hlt=>⟨⟨hb.1,hb.2.1,hb.2.2.1⟩,by simp;omega⟩));have hx2:=hx2.keep (ok':=fun b=>B<b∧¬ b=T3∧¬ b=P) (Sh.of_fr (Fr.refl [] y4) (fun b hb hlt=>⟨by have:y3.heap.size≤b:=hb;exact⟨by omega,by omega,by omega⟩,fun x=>by cases x⟩));have row4:=Aj.lit2 Al (T:=27) (size:=8) (ok:=fun b=>B<b∧¬ b=T3∧¬ b=P) hx0 hx2 rfl rfl (by exact⟨by omega,by omega,by omega⟩);have row5:=Aj.keep (ok':=fun b=>B<b∧¬ b=T3∧¬ b=P) Al row4 (Sh.of_fr f5 (fun b hb hlt=>⟨hb,fun x=>by cases x⟩));have f45:Fr [P] y3 y5:=f4.trans0 (((Fr.refl [] y4).alloc _).trans f5);have h5:=hst2.fr (((Fr.refl [] y4).alloc (.cells #[vI k0,vI a0,vS nm0,vI n0,vS s0,.slice A50 n50 c50,.slice A60 n60 c60,.slice A70 n70 c70,vI k2,vI a2,vS nm2,vI n2,vS s2,.slice A52 n52 c52,.slice A62 n62 c62,.slice A72 n72 c72] 27)).trans f5);have g0:=f45.keep g0 (by simpa using nB);have hx0:=hx0.keep (ok':=fun b=>B<b∧¬ b=T3∧¬ b=P) (Sh.of_fr (((Fr.refl [] y4).alloc (.cells #[vI k0,vI a0,vS nm0,vI n0,vS s0,.slice A50 n50 c50,.slice A60 n60 c60,.slice A70 n70 c70,vI k2,vI a2,vS nm2,vI n2,vS s2,.slice A52 n52 c52,.slice A62 n62 c62,.slice A72 n72 c72] 27)).trans f5) (fun b hb hlt=>⟨hb,fun x=>by cases x⟩));have hne4:¬ B=T3:=by omega
    have hle2:=hr2.le;have HG:=Hz (An R4 (vI 19) (vI u.at') (vE) (vI (Aw u.text)) (vE) (vZ) (.slice (some ⟨y4.heap.size,0,none⟩) 2 2) (vZ));have HB0:=Hz ((Ag y5 T3 (vI 19) (vI u.at') (vE) (vI (Aw u.text)) (vE) (vZ) (.slice (some ⟨y4.heap.size,0,none⟩) 2 2) (vZ)).keep g0 (by simp;omega));have HF:=Hz ((F3.trans f45).step (Ag y5 T3 (vI 19) (vI u.at') (vE) (vI (Aw u.text)) (vE) (vZ) (.slice (some ⟨y4.heap.size,0,none⟩) 2 2) (vZ)) (fun x hx => .inr (by simp at hx;omega)));have HP:=Hz ((h5).frL (Ag y5 T3 (vI 19) (vI u.at') (vE) (vI (Aw u.text)) (vE) (vZ) (.slice (some ⟨y4.heap.size,0,none⟩) 2 2) (vZ)) (by simp;omega) (by simp;omega));have HS:=Hz (C5 y5 T3 (vI 19) (vI u.at') (vE) (vI (Aw u.text)) (vE) (vZ) (.slice (some ⟨y4.heap.size,0,none⟩) 2 2) (vZ));have HX0:Hid (Ai (st8 y5 T3 (vI 19) (vI u.at') (vE) (vI (Aw u.text)) (vE) (vZ) (.slice (some ⟨y4.heap.size,0,none⟩) 2 2) (vZ)) (fun b=>B<b∧¬ b=T3∧¬ b=P) (.mk k0 a0 nm0 n0 s0 ls0 args0 arms0) [vI k0,vI a0,vS nm0,vI n0,vS s0,.slice A50 n50 c50,.slice A60 n60 c60,.slice A70 n70 c70]):=Hz ((hx0).keep (Sh.of_fr (Ag y5 T3 (vI 19) (vI u.at') (vE) (vI (Aw u.text)) (vE) (vZ) (.slice (some ⟨y4.heap.size,0,none⟩) 2 2) (vZ)) (fun b hb hlt=>⟨hb,by simp;exact hb.2.1⟩)));have HW0:=Hz (Aj.keep (ok':=fun b=>B<b∧¬ b=T3∧¬ b=P) Al row5 (Sh.of_fr (Ag y5 T3 (vI 19) (vI u.at') (vE) (vI (Aw u.text)) (vE) (vZ) (.slice (some ⟨y4.heap.size,0,none⟩) 2 2) (vZ)) (fun b hb hlt=>⟨hb,by simp;exact hb.2.1⟩)));unfold st8 at HG HB0 HF HP HS HX0 HW0;go_wp2_with fail;generalize (((((((y5.setCell ⟨T3,0,none⟩ (vI 19)).setCell ⟨T3,1,none⟩ (vI u.at')).setCell ⟨T3,2,none⟩ (vE)).setCell ⟨T3,3,none⟩ (vI (Aw u.text))).setCell ⟨T3,4,none⟩ (vE)).setCell ⟨T3,5,none⟩ (vZ)).setCell ⟨T3,6,none⟩ (.slice (some ⟨y4.heap.size,0,none⟩) 2 2)).setCell ⟨T3,7,none⟩ (vZ)=Z at HG HB0 HF HP HS HX0 HW0 ⊢;have hZ4:=Aa HG.out;have hxx:=Ai.of_rows (k:=19) (a:=u.at') (nm:=[]) (n:=Aw u.text) (s:=[]) (c5:=fun _=>[]) (c7:=fun _=>[]) Aj.nil_ HW0.out Aj.nil_;have hPz:=HP.out;have hpl:=hPz.pl;have hpl0:=h0.pl;have hin0:=h0.inb;simp only at hle2
    go_roundw
    case rel=>exact⟨19,u.at',[],Aw u.text,[],[],[(.mk k0 a0 nm0 n0 s0 ls0 args0 arms0),(.mk k2 a2 nm2 n2 s2 ls2 args2 arms2)],[],none,0,0,some ⟨y4.heap.size,0,none⟩,2,2,none,0,0,st2,HF.out,hBT,by exact hZ4,HB0.out,HG.out,hxx,hPz,by omega,Hz (fun x st' h=>HR.out _ _ (.look hu (by rw[if_pos hc];exact .adv (.callE hr2 (.callE h .retE)))))⟩
    case measure=>rw[hpl,hpl0];omega
theorem P8(ts:List Tok)(hE:Be ts)(N:Nat)(ih:Dp ts N):GE ts (N+1) 7 .prod 146:=by
 intro P g c st w h hm;have H:=Hz h;have hP:=Aa h.blk;have hgl:=h.lt;have hin:=h.inb;have HN:=Hz hm;have HE:=Hz hE;have IH:=Hz ih;clear h hm hE ih;go_enter func146,ntmps146;go_wp2_with fail;have f0:Fr [] w (w.alloc (.cells #[vI 0,vI 0,vE,vI 0,vE,vZ,vZ,vZ] 27)):=(Fr.refl [] w).alloc _;have g0:=Ab w (.cells #[vI 0,vI 0,vE,vI 0,vE,vZ,vZ,vZ] 27)
 generalize w.alloc (.cells #[vI 0,vI 0,vE,vI 0,vE,vZ,vZ,vZ] 27)=w1 at *
 generalize hB:w.heap.size=B at *
 have hB1:=Aa g0;have nP:¬ P=B:=by omega
 have nB:¬ B=P:=by omega
 have ng:¬ g=B:=by omega
 refine(IH.out.unary P g c st w1 (H.out.fr f0) (by have:=HN.out;omega)).mono ?_;rintro e x1 ⟨k1,a1,nm1,n1,s1,ls1,args1,arms1,A51,n51,c51,A61,n61,c61,A71,n71,c71,st1,rfl,hx1,hr1,hst1,f1⟩;have g0:=f1.keep g0 (by simpa using nB);have hGx:=g0;have hs1:=f1.size;have F1:Fr [P] w x1:=(f0.mono (fun x hx=>by cases hx)).trans f1;have hle:=hr1.le;go_wp2_with fail;have q1:=Ab x1 (.cells #[vI k1,vI a1,vS nm1,vI n1,vS s1,.slice A51 n51 c51,.slice A61 n61 c61,.slice A71 n71 c71] 27);have fb1:Fr [] x1 (x1.alloc (.cells #[vI k1,vI a1,vS nm1,vI n1,vS s1,.slice A51 n51 c51,.slice A61 n61 c61,.slice A71 n71 c71] 27)):=(Fr.refl [] x1).alloc _
 generalize hY1:x1.alloc (.cells #[vI k1,vI a1,vS nm1,vI n1,vS s1,.slice A51 n51 c51,.slice A61 n61 c61,.slice A71 n71 c71] 27)=x2 at *
 have hT1:=Aa q1
 generalize hTT1:x1.heap.size=T3 at *
 have g0:=fb1.keep g0 nE;have h2:=hst1.fr fb1;have F2:=F1.trans0 fb1;have hx1:=hx1.keep (ok':=fun b=>B<b∧¬ b=T3∧¬ b=P) (Sh.of_fr fb1 (fun b hb hlt=>⟨⟨by omega,by omega,by omega⟩,fun x=>by cases x⟩));have HR0:Hid (∀ x st',Run ts (body (.prodL (.mk k1 a1 nm1 n1 s1 ls1 args1 arms1))) st1 (.e x) st'→Run ts (body .prod) st (.e x) st'):=Hz (fun x st' h => .callE hr1 (.callE h .retE));have hBT:B<T3:=by have:=Aa hGx;omega
 clear hst1 hr1 fb1 f1 F1 hs1 H hGx
 go_loopw [] (fun wr=>∃ (k0 a0:Int) (nm0:LB) (n0:Int) (s0:LB) (ls0:List LB) (args0:List Ah) (arms0:List (Av×Ah)) (A50:Option Addr) (n50 c50:Nat) (A60:Option Addr) (n60 c60:Nat) (A70:Option Addr) (n70 c70:Nat) (st0:St),Fr [P] w wr∧B<T3∧T3<wr.heap.size∧wr.heap[B]?=some (.cells #[vI 0,vI 0,vE,vI 0,vE,vZ,vZ,vZ] 27 (0,0))∧wr.heap[T3]?=some (.cells #[vI k0,vI a0,vS nm0,vI n0,vS s0,.slice A50 n50 c50,.slice A60 n60 c60,.slice A70 n70 c70] 27 (0,0))∧Ai wr (fun b=>B<b∧¬ b=T3∧¬ b=P) (.mk k0 a0 nm0 n0 s0 ls0 args0 arms0) [vI k0,vI a0,vS nm0,vI n0,vS s0,.slice A50 n50 c50,.slice A60 n60 c60,.slice A70 n70 c70]∧PSt P g c ts st0 wr∧st.i≤st0.i∧Hid (∀ x st',Run ts (body (.prodL (.mk k0 a0 nm0 n0 s0 ls0 args0 arms0))) st0 (.e x) st'→Run ts (body .prod) st (.e x) st')) (fun wr=>ts.length-plI wr P)
 case atStart=>exact⟨k1,a1,nm1,n1,s1,ls1,args1,arms1,A51,n51,c51,A61,n61,c61,A71,n71,c71,st1,F2,hBT,hT1,g0,q1,hx1,h2,hle,HR0⟩
 case round =>
  obtain⟨k0,a0,nm0,n0,s0,ls0,args0,arms0,A50,n50,c50,A60,n60,c60,A70,n70,c70,st0,F,_,hT,g0,q0,hx0,h0,hle0,HR⟩:=hrel;clear hx1 h2 HR0 q1 F2 hle hT1;obtain⟨u,hu⟩:=At h0.inb;have fa:=(Fr.refl [] wr).alloc (.cells #[.string ⟨[42].toArray⟩,.string ⟨[47].toArray⟩,.string ⟨[37].toArray⟩] 9);have hSt:Dc wr.heap.size [[42],[47],[37]] (wr.alloc (.cells #[.string ⟨[42].toArray⟩,.string ⟨[47].toArray⟩,.string ⟨[37].toArray⟩] 9)):=Dc.lit wr [[42],[47],[37]] _;have ci:=fun cl=>Hz (Dx P g c ts st0 u hu wr.heap.size cl [[42],[47],[37]] (by simp) (wr.alloc (.cells #[.string ⟨[42].toArray⟩,.string ⟨[47].toArray⟩,.string ⟨[37].toArray⟩] 9)) (h0.fr fa) hSt (by simp) HE.out)
  clear hSt
  cases hc:isB u st0.ok [[42],[47],[37]] with
  | false =>
   rw[hc] at ci;go_wp2_with fail;refine(ci _).out.mono ?_;rintro e y1 ⟨rfl,f1⟩;have f1:=fa.trans f1;have g0:=f1.keep g0 nE;obtain⟨⟨l0,l1,l2,l3,l4,l5,l6,l7⟩,_⟩:=Ac (f1.keep q0 nE);have hx0:=hx0.keep (ok':=fun b=>B<b) (Sh.of_fr f1 (fun b hb hlt=>⟨hb.1,fun x=>by cases x⟩));have HG:=Hz (An g0 (vI k0) (vI a0) (vS nm0) (vI n0) (vS s0) (.slice A50 n50 c50) (.slice A60 n60 c60) (.slice A70 n70 c70));have HF:=Hz ((F.trans0 f1).step (Ag y1 B (vI k0) (vI a0) (vS nm0) (vI n0) (vS s0) (.slice A50 n50 c50) (.slice A60 n60 c60) (.slice A70 n70 c70)) (fun x hx => .inr (by simp at hx;omega)));have HP:=Hz (((h0.fr f1)).frL (Ag y1 B (vI k0) (vI a0) (vS nm0) (vI n0) (vS s0) (.slice A50 n50 c50) (.slice A60 n60 c60) (.slice A70 n70 c70)) (by simpa using nP) (by simpa using ng));have HX:Hid (Ai (st8 y1 B (vI k0) (vI a0) (vS nm0) (vI n0) (vS s0) (.slice A50 n50 c50) (.slice A60 n60 c60) (.slice A70 n70 c70)) (fun b=>B≤b) (.mk k0 a0 nm0 n0 s0 ls0 args0 arms0) [vI k0,vI a0,vS nm0,vI n0,vS s0,.slice A50 n50 c50,.slice A60 n60 c60,.slice A70 n70 c70]):=Hz ((hx0).keep (Sh.of_fr (Ag y1 B (vI k0) (vI a0) (vS nm0) (vI n0) (vS s0) (.slice A50 n50 c50) (.slice A60 n60 c60) (.slice A70 n70 c70)) (fun b hb hlt=>⟨by omega,by simp;omega⟩)));unfold st8 at HG HF HP HX;obtain⟨⟨u0,u1,u2,u3,u4,u5,u6,u7⟩,z0,z1,z2,z3,z4,z5,z6,z7⟩:=Ac g0;go_wp2_with fail;generalize (((((((y1.setCell ⟨B,0,none⟩ (vI k0)).setCell ⟨B,1,none⟩ (vI a0)).setCell ⟨B,2,none⟩ (vS nm0)).setCell ⟨B,3,none⟩ (vI n0)).setCell ⟨B,4,none⟩ (vS s0)).setCell ⟨B,5,none⟩ (.slice A50 n50 c50)).setCell ⟨B,6,none⟩ (.slice A60 n60 c60)).setCell ⟨B,7,none⟩ (.slice A70 n70 c70)=Z at HG HF HP HX ⊢;obtain⟨⟨d0,d1,d2,d3,d4,d5,d6,d7⟩,_⟩:=Ac HG.out;refine bodyPost_ret (v:=.agg #[vI k0,vI a0,vS nm0,vI n0,vS s0,.slice A50 n50 c50,.slice A60 n60 c60,.slice A70 n70 c70]) ?_ rfl ?_
   ·simp[results,Tryz.f146,go_sem,d0,d1,d2,d3,d4,d5,d6,d7]
   ·exact⟨_,_,_,_,_,_,_,_,_,_,_,_,_,_,_,_,_,_,rfl,by rw[hB];exact HX.out,HR.out _ _ (.look hu (by rw[if_neg (by rw[hc];decide)];exact .retE)),HP.out,HF.out⟩
  | true =>
   rw[hc] at ci;have HK0:=Hz (Em hc);go_wp2_with fail;refine(ci _).out.mono ?_;rintro e y1 ⟨rfl,f1⟩;go_wp2_with fail;have f1:=fa.trans f1;refine(Ch P g c ts st0 u hu HK0.out.1 HK0.out.2 y1 (h0.fr f1) HE.out).mono ?_;rintro e y2 ⟨rfl,h2,f2⟩;have f2:=(f1.mono (L':=[P]) (fun x hx=>by cases hx)).trans f2;have g0:=f2.keep g0 (by simpa using nB);have q0:=f2.keep q0 (by simp;omega);have F2:=F.trans f2;have hx0:=hx0.keep (ok':=fun b=>B<b∧¬ b=T3∧¬ b=P) (Sh.of_fr f2 (fun b hb hlt=>⟨hb,by simp;omega⟩));go_wp2_with fail;have q5:=Ab y2 (.cells #[vI u.k,vI u.at',.string ⟨u.text.toArray⟩,vI u.n] 46);have fb5:Fr [] y2 (y2.alloc (.cells #[vI u.k,vI u.at',.string ⟨u.text.toArray⟩,vI u.n] 46)):=(Fr.refl [] y2).alloc _;have h3:=h2.fr fb5
   generalize y2.alloc (.cells #[vI u.k,vI u.at',.string ⟨u.text.toArray⟩,vI u.n] 46)=y3 at *
   have hT5:=Aa q5;have hT4y:=Aa q0;have hs3:=fb5.size
   generalize y2.heap.size=T5 at *
   have g0:=fb5.keep g0 nE;have q0:=fb5.keep q0 nE;have F3:=F2.trans0 fb5;have hx0:=hx0.keep (ok':=fun b=>B<b∧¬ b=T3∧¬ b=P∧b<y3.heap.size) (Sh.of_fr fb5 (fun b hb hlt=>⟨⟨hb.1,hb.2.1,hb.2.2,by have:=fb5.size;omega⟩,fun x=>by cases x⟩));have cE:=fun W hW=>Hz (IH.out.unary P g c ⟨st0.i+1,st0.ok⟩ W hW (by have:=HN.out;have:=h3.inb;simp only at this ⊢;omega))
   obtain⟨⟨l0,l1,l2,l3,l4,l5,l6,l7⟩,_⟩:=Ac q0;obtain⟨m0,m1,m2,m3,_⟩:=Am q5;have n45:¬ T3=T5:=by omega
   have n54:¬ T5=T3:=by omega
   clear F2 h2 f2 f1 fa ci;refine Ft (fun w'=>(w'.cell? ⟨T3,0,none⟩=some (vI k0)∧w'.cell? ⟨T3,1,none⟩=some (vI a0)∧w'.cell? ⟨T3,2,none⟩=some (vS nm0)∧w'.cell? ⟨T3,3,none⟩=some (vI n0)∧w'.cell? ⟨T3,4,none⟩=some (vS s0)∧w'.cell? ⟨T3,5,none⟩=some (.slice A50 n50 c50)∧w'.cell? ⟨T3,6,none⟩=some (.slice A60 n60 c60)∧w'.cell? ⟨T3,7,none⟩=some (.slice A70 n70 c70))∧w'.cell? ⟨T5,0,none⟩=some (vI u.k)∧w'.cell? ⟨T5,1,none⟩=some (vI u.at')∧w'.cell? ⟨T5,2,none⟩=some (.string ⟨u.text.toArray⟩)∧w'.cell? ⟨T5,3,none⟩=some (vI u.n)) (by kernel_rfl) (by kernel_rfl) ?hS11 (fun K hK hHeld=>?hr11)
   case hS11=>go_keep
   refine Ae (i:=0) (v:=?v12) rfl (by kernel_rfl) (by kernel_rfl) (by kernel_rfl) (fun _ _ _ h=>h) (Or.inl ⟨by rfl,?hy12⟩) (by assumption) ?hr12
   case hy12 =>
    intro w' hSw
    (try dsimp only at hSw)
    go_simp
    (try with_reducible rfl)
   (try simp only[Act.put,sX])
   refine Ae (i:=1) (v:=?v13) rfl (by kernel_rfl) (by kernel_rfl) (by kernel_rfl) (fun _ _ _ h=>h) (Or.inl ⟨by rfl,?hy13⟩) (by assumption) ?hr13
   case hy13 =>
    intro w' hSw
    (try dsimp only at hSw)
    go_simp
    (try with_reducible rfl)
   (try simp only[Act.put,sX])
   refine Ae (i:=3) (v:=?v14) rfl (by kernel_rfl) (by kernel_rfl) (by kernel_rfl) (fun _ _ _ h=>h) (Or.inl ⟨by rfl,?hy14⟩) (by assumption) ?hr14
   case hy14 =>
    intro w' hSw
    (try dsimp only at hSw)
    go_simp
    (try with_reducible rfl)
   (try simp only[Act.put,sX])
   refine Ae (i:=4) (v:=?v15) rfl (by kernel_rfl) (by kernel_rfl) (by kernel_rfl) (fun _ _ _ h=>h) (Or.inl ⟨by rfl,?hy15⟩) (by assumption) ?hr15
   case hy15 =>
    intro w' hSw
    (try dsimp only at hSw)
    go_simp
    (try with_reducible rfl)
   (try simp only[Act.put,sX])
   refine Ae (i:=5) (v:=?v16) rfl (by kernel_rfl) (by kernel_rfl) (by kernel_rfl) (fun _ _ _ h=>h) (Or.inl ⟨by rfl,?hy16⟩) (by assumption) ?hr16
   case hy16 =>
    intro w' hSw
    (try dsimp only at hSw)
    go_simp
    (try with_reducible rfl)
   (try simp only[Act.put,sX])
   refine Ak (i:=2) rfl (by kernel_rfl) (fun K2 hK2=>?hr17);go_simp;refine(Hi u.text _).mono ?_;rintro e w9 ⟨rfl,rfl⟩;go_simp;refine hK2.out _ _ ?hS17 (fun hHeld=>?hq17)
   case hS17=>go_keep
   clear hK2 K2
   (try simp only[Act.put,sX])
   refine Ak (i:=6) rfl (by kernel_rfl) (fun K6 hK6=>?hr18);go_simp;refine(cE _ (h3.fr (Fr.refl [] y3).drew)).out.mono ?_;rintro e y4 ⟨k2,a2,nm2,n2,s2,ls2,args2,arms2,A52,n52,c52,A62,n62,c62,A72,n72,c72,st2,rfl,hx2,hr2,hst2,f4⟩;have Q4:=f4.keep (w:=y3.drew) q0 (by simp;omega);have Q5:=f4.keep (w:=y3.drew) q5 (by simp;omega);have hT44:=Aa Q4;have hT54:=Aa Q5;have M5:=Am Q5;obtain⟨⟨v0,v1,v2,v3,v4,v5,v6,v7⟩,_⟩:=Ac Q4;go_simp;refine hK6.out _ _ ?hS18 (fun hHeld=>?hq18)
   case hS18=>exact⟨(Ac Q4).1,M5.1,M5.2.1,M5.2.2.1,M5.2.2.2.1⟩
   clear hK6 K6
   (try simp only[Act.put,sX])
   refine Ak (i:=7) rfl (by kernel_rfl) (fun K7 hK7=>?hr19);go_simp;refine hK7.out _ _ ?hS19 (fun hHeld=>?hq19)
   case hS19=>exact⟨(Ac (Ad Q4 _)).1,(Am (Ad Q5 _)).1,(Am (Ad Q5 _)).2.1,(Am (Ad Q5 _)).2.2.1,(Am (Ad Q5 _)).2.2.2.1⟩
   clear hK7 K7
   (try simp only[Act.put,sX])
   refine Ak (i:=8) rfl (by kernel_rfl) (fun K8 hK8=>?hr20);go_simp;refine(Gj _ u _ _ _ _).mono ?_;rintro e y5 ⟨rfl,f5⟩;have R4:=f5.keep (Ad Q4 (.cells #[vI k0,vI a0,vS nm0,vI n0,vS s0,.slice A50 n50 c50,.slice A60 n60 c60,.slice A70 n70 c70,vI k2,vI a2,vS nm2,vI n2,vS s2,.slice A52 n52 c52,.slice A62 n62 c62,.slice A72 n72 c72] 27)) nE;have R5:=f5.keep (Ad Q5 (.cells #[vI k0,vI a0,vS nm0,vI n0,vS s0,.slice A50 n50 c50,.slice A60 n60 c60,.slice A70 n70 c70,vI k2,vI a2,vS nm2,vI n2,vS s2,.slice A52 n52 c52,.slice A62 n62 c62,.slice A72 n72 c72] 27)) nE;have hT45:=Aa R4;have hT55:=Aa R5;have M6:=Am R5;obtain⟨⟨u0,u1,u2,u3,u4,u5,u6,u7⟩,z0,z1,z2,z3,z4,z5,z6,z7⟩:=Ac R4;go_simp;refine hK8.out _ _ ?hS20 (fun hHeld=>?hq20)
   case hS20=>exact⟨(Ac R4).1,M6.1,M6.2.1,M6.2.2.1,M6.2.2.2.1⟩
   clear hK8 K8
   (try simp only[Act.put,sX])
   refine wpAnyH_done (by kernel_rfl) ?hr21 _;refine As rfl ?hq21;go_simp;refine hK.out _ _ ?hs21;clear hK K
   all_goals
    clear M5 M6 u0 u1 u2 u3 u4 u5 u6 u7 z0 z1 z2 z3 z4 z5 z6 z7 l0 l1 l2 l3 l4 l5 l6 l7 m0 m1 m2 m3 v0 v1 v2 v3 v4 v5 v6 v7;have f4:Fr [P] y3 y4:=((Fr.refl [P] y3).drew).trans f4;have f5:Fr [] (y4.alloc (.cells #[vI k0,vI a0,vS nm0,vI n0,vS s0,.slice A50 n50 c50,.slice A60 n60 c60,.slice A70 n70 c70,vI k2,vI a2,vS nm2,vI n2,vS s2,.slice A52 n52 c52,.slice A62 n62 c62,.slice A72 n72 c72] 27)) y5:=f5;have hs4:=f4.size;have hx0:=hx0.keep (ok':=fun b=>B<b∧¬ b=T3∧¬ b=P) (Sh.of_fr f4 (fun b hb hlt=>⟨⟨hb.1,hb.2.1,hb.2.2.1⟩,by simp;omega⟩));have hx2:=hx2.keep (ok':=fun b=>B<b∧¬ b=T3∧¬ b=P) (Sh.of_fr (Fr.refl [] y4) (fun b hb hlt=>⟨by have:y3.heap.size≤b:=hb;exact⟨by omega,by omega,by omega⟩,fun x=>by cases x⟩));have row4:=Aj.lit2 Al (T:=27) (size:=8) (ok:=fun b=>B<b∧¬ b=T3∧¬ b=P) hx0 hx2 rfl rfl (by exact⟨by omega,by omega,by omega⟩);have row5:=Aj.keep (ok':=fun b=>B<b∧¬ b=T3∧¬ b=P) Al row4 (Sh.of_fr f5 (fun b hb hlt=>⟨hb,fun x=>by cases x⟩));have f45:Fr [P] y3 y5:=f4.trans0 (((Fr.refl [] y4).alloc _).trans f5);have h5:=hst2.fr (((Fr.refl [] y4).alloc (.cells #[vI k0,vI a0,vS nm0,vI n0,vS s0,.slice A50 n50 c50,.slice A60 n60 c60,.slice A70 n70 c70,vI k2,vI a2,vS nm2,vI n2,vS s2,.slice A52 n52 c52,.slice A62 n62 c62,.slice A72 n72 c72] 27)).trans f5);have g0:=f45.keep g0 (by simpa using nB);have hx0:=hx0.keep (ok':=fun b=>B<b∧¬ b=T3∧¬ b=P) (Sh.of_fr (((Fr.refl [] y4).alloc (.cells #[vI k0,vI a0,vS nm0,vI n0,vS s0,.slice A50 n50 c50,.slice A60 n60 c60,.slice A70 n70 c70,vI k2,vI a2,vS nm2,vI n2,vS s2,.slice A52 n52 c52,.slice A62 n62 c62,.slice A72 n72 c72] 27)).trans f5) (fun b hb hlt=>⟨hb,fun x=>by cases x⟩));have hne4:¬ B=T3:=by omega
    have hle2:=hr2.le;have HG:=Hz (An R4 (vI 19) (vI u.at') (vE) (vI (Aw u.text)) (vE) (vZ) (.slice (some ⟨y4.heap.size,0,none⟩) 2 2) (vZ));have HB0:=Hz ((Ag y5 T3 (vI 19) (vI u.at') (vE) (vI (Aw u.text)) (vE) (vZ) (.slice (some ⟨y4.heap.size,0,none⟩) 2 2) (vZ)).keep g0 (by simp;omega));have HF:=Hz ((F3.trans f45).step (Ag y5 T3 (vI 19) (vI u.at') (vE) (vI (Aw u.text)) (vE) (vZ) (.slice (some ⟨y4.heap.size,0,none⟩) 2 2) (vZ)) (fun x hx => .inr (by simp at hx;omega)));have HP:=Hz ((h5).frL (Ag y5 T3 (vI 19) (vI u.at') (vE) (vI (Aw u.text)) (vE) (vZ) (.slice (some ⟨y4.heap.size,0,none⟩) 2 2) (vZ)) (by simp;omega) (by simp;omega));have HS:=Hz (C5 y5 T3 (vI 19) (vI u.at') (vE) (vI (Aw u.text)) (vE) (vZ) (.slice (some ⟨y4.heap.size,0,none⟩) 2 2) (vZ));have HX0:Hid (Ai (st8 y5 T3 (vI 19) (vI u.at') (vE) (vI (Aw u.text)) (vE) (vZ) (.slice (some ⟨y4.heap.size,0,none⟩) 2 2) (vZ)) (fun b=>B<b∧¬ b=T3∧¬ b=P) (.mk k0 a0 nm0 n0 s0 ls0 args0 arms0) [vI k0,vI a0,vS nm0,vI n0,vS s0,.slice A50 n50 c50,.slice A60 n60 c60,.slice A70 n70 c70]):=Hz ((hx0).keep (Sh.of_fr (Ag y5 T3 (vI 19) (vI u.at') (vE) (vI (Aw u.text)) (vE) (vZ) (.slice (some ⟨y4.heap.size,0,none⟩) 2 2) (vZ)) (fun b hb hlt=>⟨hb,by simp;exact hb.2.1⟩)));have HW0:=Hz (Aj.keep (ok':=fun b=>B<b∧¬ b=T3∧¬ b=P) Al row5 (Sh.of_fr (Ag y5 T3 (vI 19) (vI u.at') (vE) (vI (Aw u.text)) (vE) (vZ) (.slice (some ⟨y4.heap.size,0,none⟩) 2 2) (vZ)) (fun b hb hlt=>⟨hb,by simp;exact hb.2.1⟩)));unfold st8 at HG HB0 HF HP HS HX0 HW0;go_wp2_with fail;generalize (((((((y5.setCell ⟨T3,0,none⟩ (vI 19)).setCell ⟨T3,1,none⟩ (vI u.at')).setCell ⟨T3,2,none⟩ (vE)).setCell ⟨T3,3,none⟩ (vI (Aw u.text))).setCell ⟨T3,4,none⟩ (vE)).setCell ⟨T3,5,none⟩ (vZ)).setCell ⟨T3,6,none⟩ (.slice (some ⟨y4.heap.size,0,none⟩) 2 2)).setCell ⟨T3,7,none⟩ (vZ)=Z at HG HB0 HF HP HS HX0 HW0 ⊢;have hZ4:=Aa HG.out;have hxx:=Ai.of_rows (k:=19) (a:=u.at') (nm:=[]) (n:=Aw u.text) (s:=[]) (c5:=fun _=>[]) (c7:=fun _=>[]) Aj.nil_ HW0.out Aj.nil_;have hPz:=HP.out;have hpl:=hPz.pl;have hpl0:=h0.pl;have hin0:=h0.inb;simp only at hle2
    go_roundw
    case rel=>exact⟨19,u.at',[],Aw u.text,[],[],[(.mk k0 a0 nm0 n0 s0 ls0 args0 arms0),(.mk k2 a2 nm2 n2 s2 ls2 args2 arms2)],[],none,0,0,some ⟨y4.heap.size,0,none⟩,2,2,none,0,0,st2,HF.out,hBT,by exact hZ4,HB0.out,HG.out,hxx,hPz,by omega,Hz (fun x st' h=>HR.out _ _ (.look hu (by rw[if_pos hc];exact .adv (.callE hr2 (.callE h .retE)))))⟩
    case measure=>rw[hpl,hpl0];omega
end
end Go.Proofs.YtpjkfeehgookkaaGreatDoor
