/- A part of the proof: P7, P8, P9, Pa, Pb, Pc, Pi. -/
import Derived.Deep.DrawnRows
import Derived.Test.YtlafbbnikgcdlaaGreatDoorKb2
import Derived.Test.YtlafbbnikgcdlaaGreatDoorKb8
namespace Go.Proofs.YtlafbbnikgcdlaaGreatDoor
open Go.RowKit
open _root_.Go.Proofs.Tryz
set_option linter.all false
set_option maxHeartbeats 16000000
set_option maxRecDepth 100000
variable{p:Prop}
theorem Mi(n:Int)(t:Tok)(A:Option Addr)(m c:Nat)(w:World):
  Calls prog 73 #[vI n,.agg #[vI t.k,vI t.at',.string ⟨t.text.toArray⟩,vI t.n],.slice A m c] w fun e w' =>
   e = .returned (.agg #[vI 19,vI t.at',vE,vI n,vE,vZ,.slice A m c,vZ])∧Fr [] w w':=by
 obtain⟨tk,ta,tt,tn⟩:=t;simp only;go_enter func73,ntmps73;go_wp2_with fail;refine bodyPost_ret (v:=.agg #[vI 19,vI ta,vE,vI n,vE,vZ,.slice A m c,vZ]) ?_ rfl ?_
 ·simp[results,Tryz.f73,go_sem]
 ·exact⟨rfl,((Fr.refl [] w).alloc _).alloc _⟩
theorem N5(s:LB)(w:World):
  Calls prog 162 #[vS s] w fun e w'=>e = .returned (vI (Bm s))∧w=w':=by
 cases b0:(s==[61])with
 | true =>
  have hv:Bm s=7:=by rw[eq_of_beq b0];rfl
  exact qq250
 | false =>
  cases b1:(s==[60])with
  | true =>
   have hv:Bm s=8:=by rw[eq_of_beq b1];rfl
   exact qq250
  | false =>
   cases b2:(s==[43])with
   | true =>
    have hv:Bm s=1:=by rw[eq_of_beq b2];rfl
    exact qq250
   | false =>
    cases b3:(s==[45])with
    | true =>
     have hv:Bm s=2:=by rw[eq_of_beq b3];rfl
     exact qq250
    | false =>
     cases b4:(s==[42])with
     | true =>
      have hv:Bm s=3:=by rw[eq_of_beq b4];rfl
      exact qq250
     | false =>
      cases b5:(s==[47])with
      | true =>
       have hv:Bm s=4:=by rw[eq_of_beq b5];rfl
       exact qq250
      | false =>
       have hv:Bm s=5:=by unfold Bm;rw[if_neg (bN.1 b0),if_neg (bN.1 b1),if_neg (bN.1 b2),if_neg (bN.1 b3),if_neg (bN.1 b4),if_neg (bN.1 b5)]
       exact qq250
theorem Rj(s:LB)(w:World):
  Calls prog 191 #[vS s] w fun e w'=>e = .returned (.tuple #[vI (Bz s).1,vI ((Bz s).2:Nat)])∧w=w':=by
 cases b0:(s==[114,101,102])with
 | true =>
  have hv:Bz s=(10,1):=by rw[eq_of_beq b0];rfl
  exact qq88
 | false =>
  cases b1:(s==[108,101,110])with
  | true =>
   have hv:Bz s=(16,1):=by rw[eq_of_beq b1];rfl
   exact qq88
  | false =>
   cases b2:(s==[115,105,122,101])with
   | true =>
    have hv:Bz s=(17,1):=by rw[eq_of_beq b2];rfl
    exact qq88
   | false =>
    cases b3:(s==[103,101,116,99])with
    | true =>
     have hv:Bz s=(20,1):=by rw[eq_of_beq b3];rfl
     exact qq88
    | false =>
     cases b4:(s==[112,117,116,99])with
     | true =>
      have hv:Bz s=(21,1):=by rw[eq_of_beq b4];rfl
      exact qq88
     | false =>
      cases b5:(s==[97,114,114,97,121])with
      | true =>
       have hv:Bz s=(13,2):=by rw[eq_of_beq b5];rfl
       exact qq88
      | false =>
       cases b6:(s==[103,101,116])with
       | true =>
        have hv:Bz s=(14,2):=by rw[eq_of_beq b6];rfl
        exact qq88
       | false =>
        cases b7:(s==[98,121,116,101])with
        | true =>
         have hv:Bz s=(18,2):=by rw[eq_of_beq b7];rfl
         exact qq88
        | false =>
         cases b8:(s==[99,97,116])with
         | true =>
          have hv:Bz s=(19,2):=by rw[eq_of_beq b8];rfl
          exact qq88
         | false =>
          cases b9:(s==[115,101,116])with
          | true =>
           have hv:Bz s=(15,3):=by rw[eq_of_beq b9];rfl
           exact qq88
          | false =>
           have hv:Bz s=(0,0):=by unfold Bz;rw[if_neg (bN.1 b0),if_neg (bN.1 b1),if_neg (bN.1 b2),if_neg (bN.1 b3),if_neg (bN.1 b4),if_neg (bN.1 b5),if_neg (bN.1 b6),if_neg (bN.1 b7),if_neg (bN.1 b8),if_neg (bN.1 b9)]
           exact qq88
section
attribute [local go_sem ↓] Go.wp_at_zero Go.wp_at_succ
theorem nn72(h:p:=by
 obtain⟨t,ht⟩:=Bn hin;have kqq39:=@Hz _ @nn128;exact qq39):p:=h
theorem nn77(h:p:=by
 refine bodyPost_ret (v:=.agg #[vI k2,vI a2,vS nm2,vI n2,vS s2,.slice A52 n52 c52,.slice A62 n62 c62,.slice A72 n72 c72]) ?_ rfl ?_
 ·exact qq289
 ·exact⟨_,_,_,_,_,_,_,_,_,_,_,_,_,_,_,_,_,_,rfl,by rw[hB];exact HX.out,.look ht (.may_no ht hb (.els (.may_no ht hb2 (.callE hr2 .retE)))),HP.out,HF.out⟩):p:=h
theorem nn126(h:p:=by
 have HG:=Hz (Aq G7 (vI 19) (vI t.at') (vE) (vI 9) (vE) (vZ) (.slice (some ⟨x6.heap.size,0,none⟩) 1 1) (vZ));have HF:=Hz ((F5.trans (f6.trans0 (((Fr.refl [] x6).alloc _).trans f7))).step (Aj x7 B (vI 19) (vI t.at') (vE) (vI 9) (vE) (vZ) (.slice (some ⟨x6.heap.size,0,none⟩) 1 1) (vZ)) (fun x hx => .inr (by simp at hx;omega)));have HP:=Hz (((hst2.fr (((Fr.refl [] x6).alloc _).trans f7))).frL (Aj x7 B (vI 19) (vI t.at') (vE) (vI 9) (vE) (vZ) (.slice (some ⟨x6.heap.size,0,none⟩) 1 1) (vZ)) (by simpa using nP) (by simpa using ng));have HR:=Hz (An.keep (ok':=fun b=>B≤b) As row7 (Sh.of_fr (Aj x7 B (vI 19) (vI t.at') (vE) (vI 9) (vE) (vZ) (.slice (some ⟨x6.heap.size,0,none⟩) 1 1) (vZ)) (fun b hb hlt=>⟨oM,by simp;omega⟩)));unfold st8 at HG HF HP HR;go_wp2_with fail;generalize (((((((x7.setCell ⟨B,0,none⟩ (vI 19)).setCell ⟨B,1,none⟩ (vI t.at')).setCell ⟨B,2,none⟩ (vE)).setCell ⟨B,3,none⟩ (vI 9)).setCell ⟨B,4,none⟩ (vE)).setCell ⟨B,5,none⟩ (vZ)).setCell ⟨B,6,none⟩ (.slice (some ⟨x6.heap.size,0,none⟩) 1 1)).setCell ⟨B,7,none⟩ (vZ)=Z at HG HF HP HR ⊢;obtain⟨⟨d0,d1,d2,d3,d4,d5,d6,d7⟩,_⟩:=Ac HG.out;have hxx:=Ak.of_rows (k:=19) (a:=t.at') (nm:=[]) (n:=9) (s:=[]) (c5:=fun _=>[]) (c7:=fun _=>[]) An.nil_ HR.out An.nil_;refine bodyPost_ret (v:=.agg #[vI 19,vI t.at',vE,vI 9,vE,vZ,.slice (some ⟨x6.heap.size,0,none⟩) 1 1,vZ]) ?_ rfl ?_
 ·exact qq289
 ·exact⟨_,_,_,_,_,_,_,_,_,_,_,_,_,_,_,_,_,_,rfl,by rw[hB];exact hxx,.look ht (.may_no ht hb (.els (.may_yes ht hb2 (.callE hr2 .retE)))),HP.out,HF.out⟩):p:=h
theorem nn127(h:p:=by
 have HG:=Hz (Aq G7 (vI 19) (vI t.at') (vE) (vI 6) (vE) (vZ) (.slice (some ⟨x6.heap.size,0,none⟩) 1 1) (vZ));have HF:=Hz ((F5.trans (f6.trans0 (((Fr.refl [] x6).alloc _).trans f7))).step (Aj x7 B (vI 19) (vI t.at') (vE) (vI 6) (vE) (vZ) (.slice (some ⟨x6.heap.size,0,none⟩) 1 1) (vZ)) (fun x hx => .inr (by simp at hx;omega)));have HP:=Hz (((hst2.fr (((Fr.refl [] x6).alloc _).trans f7))).frL (Aj x7 B (vI 19) (vI t.at') (vE) (vI 6) (vE) (vZ) (.slice (some ⟨x6.heap.size,0,none⟩) 1 1) (vZ)) (by simpa using nP) (by simpa using ng));have HR:=Hz (An.keep (ok':=fun b=>B≤b) As row7 (Sh.of_fr (Aj x7 B (vI 19) (vI t.at') (vE) (vI 6) (vE) (vZ) (.slice (some ⟨x6.heap.size,0,none⟩) 1 1) (vZ)) (fun b hb hlt=>⟨oM,by simp;omega⟩)));unfold st8 at HG HF HP HR;go_wp2_with fail;generalize (((((((x7.setCell ⟨B,0,none⟩ (vI 19)).setCell ⟨B,1,none⟩ (vI t.at')).setCell ⟨B,2,none⟩ (vE)).setCell ⟨B,3,none⟩ (vI 6)).setCell ⟨B,4,none⟩ (vE)).setCell ⟨B,5,none⟩ (vZ)).setCell ⟨B,6,none⟩ (.slice (some ⟨x6.heap.size,0,none⟩) 1 1)).setCell ⟨B,7,none⟩ (vZ)=Z at HG HF HP HR ⊢;obtain⟨⟨d0,d1,d2,d3,d4,d5,d6,d7⟩,_⟩:=Ac HG.out;have hxx:=Ak.of_rows (k:=19) (a:=t.at') (nm:=[]) (n:=6) (s:=[]) (c5:=fun _=>[]) (c7:=fun _=>[]) An.nil_ HR.out An.nil_;refine bodyPost_ret (v:=.agg #[vI 19,vI t.at',vE,vI 6,vE,vZ,.slice (some ⟨x6.heap.size,0,none⟩) 1 1,vZ]) ?_ rfl ?_
 ·exact qq289
 ·exact qq218):p:=h
theorem nn128(h:p:=by
 cases hb:isB t st.ok [[45]] with
 | true =>
  refine(may_yes [45] P g c ts st t ht hb x4 h4 HE.out).mono ?_;have kqq38:=@Hz _ @nn127
  exact qq38
 | false =>
  refine(may_no [45] P g c ts st t ht hb x4 h4 HE.out).mono ?_;rintro e y4 ⟨rfl,f5⟩;go_wp2_with fail;have g0:=f5.keep g0 nE;have q3:=f5.keep q3 nE;have h4:=h4.fr f5;have f4:=f4.trans f5;have hs4:=f5.size;clear f5
  cases hb2:isB t st.ok [[110,111,116]] with
  | true =>
   refine(may_yes [110,111,116] P g c ts st t ht hb2 y4 h4 HE.out).mono ?_;have kqq38:=@Hz _ @nn126
   exact qq38
  | false =>
   refine(may_no [110,111,116] P g c ts st t ht hb2 y4 h4 HE.out).mono ?_;rintro e y5 ⟨rfl,f5⟩;go_wp2_with fail;have g0:=f5.keep g0 nE;have h5:=h4.fr f5;have f5:=f4.trans f5;have hs5:=Aa g0;refine(IH.out.app P g c st y5 h5 (by have:=HN.out;omega)).mono ?_;have kqq360:=@Hz _ @nn707;exact qq360):p:=h
theorem nn192(h:p:=by
 go_enter func187,ntmps187;have kqq18:=@Hz _ @nn72;exact qq18):p:=h
theorem nn707(h:p:=by
 have G6:=f6.keep g0 (by simpa using nB);have hx2:=hx2.keep (ok':=fun b=>B<b) (Sh.of_fr (Fr.refl [] x6) (fun b hb hlt=>⟨oM,fun x=>by cases x⟩));have g0:=G6;have HG:=Hz (Aq g0 (vI k2) (vI a2) (vS nm2) (vI n2) (vS s2) (.slice A52 n52 c52) (.slice A62 n62 c62) (.slice A72 n72 c72));have HF:=Hz (((f5.mono (fun x hx=>by cases hx)).trans f6).step (Aj x6 B (vI k2) (vI a2) (vS nm2) (vI n2) (vS s2) (.slice A52 n52 c52) (.slice A62 n62 c62) (.slice A72 n72 c72)) (fun x hx => .inr (by simp at hx;omega)));have kqq19:=@Hz _ @nn77;exact qq19):p:=h
theorem unary_step(ts:List Tok)(hE:Cx ts)(N:Nat)(ih:Hi ts N):GE ts (N+1) 6 .unary 187:=by
 intro P g c st w h hm;have kqq68:=@Hz _ @nn192;exact qq68
def plI(w:World)(P:Nat):Nat:=match w.cell? ⟨P,1,none⟩with
 | some (.int _ n)=>n.toNat
 | _=>0
theorem PSt.pl{P g c:Nat}{ts:List Tok}{st:St}{w:World}(h:PSt P g c ts st w):plI w P=st.i:=by
 unfold plI;rw[(Fp h.blk).2.1];simp
theorem Xs(t:Tok)(st:St):st.i≤(El t st).i:=by unfold El;split <;> simp
theorem nn56(h:p:=by
 refine bodyPost_ret (v:=.agg #[vI k0,vI a0,vS nm0,vI n0,vS s0,.slice A50 n50 c50,.slice A60 n60 c60,.slice A70 n70 c70]) ?_ rfl ?_
 ·simp[results,Tryz.f71,go_sem,d0,d1,d2,d3,d4,d5,d6,d7]
 ·exact qq141):p:=h
theorem nn71(h:p:=by
 obtain⟨t,ht⟩:=Bn hin;have kqq39:=@Hz _ @nn129;exact qq39):p:=h
theorem nn103(h:p:=by
 generalize hTT1:x1.heap.size=T4 at *
 have g0:=fb1.keep g0 nE;have h2:=hst1.fr fb1;have F2:=F1.trans0 fb1;have hx1:=hx1.keep (ok':=fun b=>B<b∧¬ b=T4∧¬ b=P) (Sh.of_fr fb1 (fun b hb hlt=>⟨⟨oM,oM,oM⟩,fun x=>by cases x⟩));have HR0:Hid (∀ x st',Run ts (body (.postL (.mk k1 a1 nm1 n1 s1 ls1 args1 arms1))) st1 (.e x) st'→Run ts (body .post) st (.e x) st'):=Hz (fun x st' h => .look ht (.may_no ht hb (.els (.callE hr1 (.callE h .retE)))));have hBT:B<T4:=by have:=Aa hGx;omega
 clear hst1 hr1 fb1 f1 F1 hs1 H IH HN
 go_loopw [] (fun wr=>∃ (k0 a0:Int) (nm0:LB) (n0:Int) (s0:LB) (ls0:List LB) (args0:List Ad) (arms0:List (Al×Ad)) (A50:Option Addr) (n50 c50:Nat) (A60:Option Addr) (n60 c60:Nat) (A70:Option Addr) (n70 c70:Nat) (st0:St),Fr [P] w wr∧B<T4∧T4<wr.heap.size∧wr.heap[B]?=some (.cells #[vI 0,vI 0,vE,vI 0,vE,vZ,vZ,vZ] 27 (0,0))∧wr.heap[T4]?=some (.cells #[vI k0,vI a0,vS nm0,vI n0,vS s0,.slice A50 n50 c50,.slice A60 n60 c60,.slice A70 n70 c70] 27 (0,0))∧Ak wr (fun b=>B<b∧¬ b=T4∧¬ b=P) (.mk k0 a0 nm0 n0 s0 ls0 args0 arms0) [vI k0,vI a0,vS nm0,vI n0,vS s0,.slice A50 n50 c50,.slice A60 n60 c60,.slice A70 n70 c70]∧PSt P g c ts st0 wr∧st.i≤st0.i∧Hid (∀ x st',Run ts (body (.postL (.mk k0 a0 nm0 n0 s0 ls0 args0 arms0))) st0 (.e x) st'→Run ts (body .post) st (.e x) st')) (fun wr=>ts.length-plI wr P)
 case atStart=>exact⟨k1,a1,nm1,n1,s1,ls1,args1,arms1,A51,n51,c51,A61,n61,c61,A71,n71,c71,st1,F2,hBT,hT1,g0,q1,hx1,h2,hle,HR0⟩
 case round =>
  have kqq148:=@Hz _ @nn360;exact qq148):p:=h
theorem nn129(h:p:=by
 cases hb:isB t st.ok [[33]] with
 | true =>
  refine(may_yes [33] P g c ts st t ht hb x4 h4 HE.out).mono ?_;have kqq259:=@Hz _ @nn521
  exact qq259
 | false =>
  refine(may_no [33] P g c ts st t ht hb x4 h4 HE.out).mono ?_;rintro e y5 ⟨rfl,f5⟩;go_wp2_with fail;have g0:=f5.keep g0 nE;have h5:=h4.fr f5;have f5:=f4.trans f5;have hs5:=Aa g0;refine(IH.out.atom P g c st y5 h5 (by have:=HN.out;omega)).mono ?_;have kqq144:=@Hz _ @nn346;exact qq144):p:=h
theorem nn191(h:p:=by
 go_enter func71,ntmps71;have kqq18:=@Hz _ @nn71;exact qq18):p:=h
theorem nn293(h:p:=by
 have HG:=Hz (Aq G7 (vI 19) (vI t.at') (vE) (vI 11) (vE) (vZ) (.slice (some ⟨x6.heap.size,0,none⟩) 1 1) (vZ));have HF:=Hz ((F5.trans (f6.trans0 (((Fr.refl [] x6).alloc _).trans f7))).step (Aj x7 B (vI 19) (vI t.at') (vE) (vI 11) (vE) (vZ) (.slice (some ⟨x6.heap.size,0,none⟩) 1 1) (vZ)) (fun x hx => .inr (by simp at hx;omega)));have HP:=Hz (((hst2.fr (((Fr.refl [] x6).alloc _).trans f7))).frL (Aj x7 B (vI 19) (vI t.at') (vE) (vI 11) (vE) (vZ) (.slice (some ⟨x6.heap.size,0,none⟩) 1 1) (vZ)) (by simpa using nP) (by simpa using ng));have HR:=Hz (An.keep (ok':=fun b=>B≤b) As row7 (Sh.of_fr (Aj x7 B (vI 19) (vI t.at') (vE) (vI 11) (vE) (vZ) (.slice (some ⟨x6.heap.size,0,none⟩) 1 1) (vZ)) (fun b hb hlt=>⟨oM,by simp;omega⟩)));unfold st8 at HG HF HP HR;go_wp2_with fail;generalize (((((((x7.setCell ⟨B,0,none⟩ (vI 19)).setCell ⟨B,1,none⟩ (vI t.at')).setCell ⟨B,2,none⟩ (vE)).setCell ⟨B,3,none⟩ (vI 11)).setCell ⟨B,4,none⟩ (vE)).setCell ⟨B,5,none⟩ (vZ)).setCell ⟨B,6,none⟩ (.slice (some ⟨x6.heap.size,0,none⟩) 1 1)).setCell ⟨B,7,none⟩ (vZ)=Z at HG HF HP HR ⊢;obtain⟨⟨d0,d1,d2,d3,d4,d5,d6,d7⟩,_⟩:=Ac HG.out;have hxx:=Ak.of_rows (k:=19) (a:=t.at') (nm:=[]) (n:=11) (s:=[]) (c5:=fun _=>[]) (c7:=fun _=>[]) An.nil_ HR.out An.nil_;refine bodyPost_ret (v:=.agg #[vI 19,vI t.at',vE,vI 11,vE,vZ,.slice (some ⟨x6.heap.size,0,none⟩) 1 1,vZ]) ?_ rfl ?_
 ·simp[results,Tryz.f71,go_sem,d0,d1,d2,d3,d4,d5,d6,d7]
 ·exact qq218):p:=h
theorem nn328(h:p:=by
 have hx0:=hx0.keep (ok':=fun b=>B<b∧¬ b=T4∧¬ b=P) (Sh.of_fr fb5 (fun b hb hlt=>⟨hb,fun x=>by cases x⟩));obtain⟨v,hv⟩:=Bn h3.inb;have cN:=fun W hW=>Hz (J6 P g c ts ⟨st0.i+1,st0.ok⟩ v hv W hW HE.out)
 obtain⟨⟨l0,l1,l2,l3,l4,l5,l6,l7⟩,_⟩:=Ac q0;obtain⟨m0,m1,m2,m3,_⟩:=Ar q5;have n45:¬ T4=T5:=by omega
 have n54:¬ T5=T4:=by omega
 refine Bo (fun w'=>(w'.cell? ⟨T4,0,none⟩=some (vI k0)∧w'.cell? ⟨T4,1,none⟩=some (vI a0)∧w'.cell? ⟨T4,2,none⟩=some (vS nm0)∧w'.cell? ⟨T4,3,none⟩=some (vI n0)∧w'.cell? ⟨T4,4,none⟩=some (vS s0)∧w'.cell? ⟨T4,5,none⟩=some (.slice A50 n50 c50)∧w'.cell? ⟨T4,6,none⟩=some (.slice A60 n60 c60)∧w'.cell? ⟨T4,7,none⟩=some (.slice A70 n70 c70))∧w'.cell? ⟨T5,1,none⟩=some (vI u.at')) kR kR ?hS8 (fun K hK hHeld=>?hr8)
 case hS8=>go_keep
 refine Af (i:=0) (v:=?v9) rfl kR kR kR (fun _ _ _ h=>h) (Or.inl ⟨by rfl,?hy9⟩) aS ?hr9
 case hy9 =>
  exact qq9
 (try simp only[Act.put,sX])
 refine Af (i:=1) (v:=?v10) rfl kR kR kR (fun _ _ _ h=>h) (Or.inl ⟨by rfl,?hy10⟩) aS ?hr10
 case hy10 =>
  exact qq9
 (try simp only[Act.put,sX])
 refine Af (i:=2) (v:=?v11) rfl kR kR kR (fun _ _ _ h=>h) (Or.inl ⟨by rfl,?hy11⟩) aS ?hr11
 case hy11 =>
  exact qq9
 (try simp only[Act.put,sX])
 refine Af (i:=4) (v:=?v12) rfl kR kR kR (fun _ _ _ h=>h) (Or.inl ⟨by rfl,?hy12⟩) aS ?hr12
 case hy12 =>
  exact qq9
 (try simp only[Act.put,sX])
 refine wpAnyH_ready (rs:=[3,5]) kR sM (Jw (i:=3) rfl (fun K3 hK3=>?hA) (Jw (i:=5) rfl (fun K5 hK5=>?hB) AllReadyH.nil))
 case hA =>
  go_simp;refine(cN _ (h3.fr (Fr.refl [] y3).drew)).out.mono ?_;rintro e y4 ⟨rfl,h4,f4⟩;have Q4:=f4.keep (w:=y3.drew) q0 sO;have Q5:=f4.keep (w:=y3.drew) q5 sO;have hT44:=Aa Q4;have hT54:=Aa Q5;have M5:=Ar Q5;obtain⟨⟨u0,u1,u2,u3,u4,u5,u6,u7⟩,z0,z1,z2,z3,z4,z5,z6,z7⟩:=Ac Q4;go_simp;refine hK3.out _ _ ?hS0 (fun hHeld=>?hq0)
  case hS0=>exact⟨(Ac Q4).1,M5.2.1⟩
  clear hK3 K3
  (try simp only[Act.put,sX])
  refine Am (i:=5) rfl kR (fun K5 hK5=>?hr1);go_simp;refine hK5.out _ _ ?hS1 (fun hHeld=>?hq1)
  case hS1=>exact⟨(Ac (Ae Q4 _)).1,(Ar (Ae Q5 _)).2.1⟩
  clear hK5 K5
  (try simp only[Act.put,sX])
  refine Af (i:=6) (v:=?v2) rfl kR kR kR (fun _ _ _ h=>h) (Or.inl ⟨by rfl,?hy2⟩) aS ?hr2
  case hy2 =>
   exact qq9
  (try simp only[Act.put,sX])
  refine wpAnyH_done kR ?hr3 _;refine Bi rfl ?hq3;go_simp;refine hK.out _ _ ?hs3;clear hK K;clear M5 u0 u1 u2 u3 u4 u5 u6 u7 z0 z1 z2 z3 z4 z5 z6 z7 l0 l1 l2 l3 l4 l5 l6 l7 m0 m1 m2 m3;have f4:Fr [P] y3 y4:=((Fr.refl [P] y3).drew).trans f4;have g0:=f4.keep g0 (by simpa using nB);have hx0:=hx0.keep (ok':=fun b=>B<b∧¬ b=T4∧¬ b=P) (Sh.of_fr f4 (fun b hb hlt=>⟨hb,by simp;exact hb.2.2⟩));have hne4:¬ B=T4:=by omega
  have HG:=Hz (Aq Q4 (vI 14) (vI u.at') (.string ⟨(Be v ⟨st0.i+1,st0.ok⟩).toArray⟩) (vI 0) (vE) (vZ) (.slice (some ⟨y4.heap.size,0,none⟩) 1 1) (vZ));have HB0:=Hz ((Aj y4 T4 (vI 14) (vI u.at') (.string ⟨(Be v ⟨st0.i+1,st0.ok⟩).toArray⟩) (vI 0) (vE) (vZ) (.slice (some ⟨y4.heap.size,0,none⟩) 1 1) (vZ)).keep g0 sO);have HF:=Hz ((F3.trans f4).step (Aj y4 T4 (vI 14) (vI u.at') (.string ⟨(Be v ⟨st0.i+1,st0.ok⟩).toArray⟩) (vI 0) (vE) (vZ) (.slice (some ⟨y4.heap.size,0,none⟩) 1 1) (vZ)) (fun x hx => .inr (by simp at hx;omega)));have HP:=Hz ((h4).frL (Aj y4 T4 (vI 14) (vI u.at') (.string ⟨(Be v ⟨st0.i+1,st0.ok⟩).toArray⟩) (vI 0) (vE) (vZ) (.slice (some ⟨y4.heap.size,0,none⟩) 1 1) (vZ)) sO sO);have HS:=Hz (E0 y4 T4 (vI 14) (vI u.at') (.string ⟨(Be v ⟨st0.i+1,st0.ok⟩).toArray⟩) (vI 0) (vE) (vZ) (.slice (some ⟨y4.heap.size,0,none⟩) 1 1) (vZ));have HX0:Hid (Ak (st8 y4 T4 (vI 14) (vI u.at') (.string ⟨(Be v ⟨st0.i+1,st0.ok⟩).toArray⟩) (vI 0) (vE) (vZ) (.slice (some ⟨y4.heap.size,0,none⟩) 1 1) (vZ)) (fun b=>B<b∧¬ b=T4∧¬ b=P) (.mk k0 a0 nm0 n0 s0 ls0 args0 arms0) [vI k0,vI a0,vS nm0,vI n0,vS s0,.slice A50 n50 c50,.slice A60 n60 c60,.slice A70 n70 c70]):=Hz ((hx0).keep (Sh.of_fr (Aj y4 T4 (vI 14) (vI u.at') (.string ⟨(Be v ⟨st0.i+1,st0.ok⟩).toArray⟩) (vI 0) (vE) (vZ) (.slice (some ⟨y4.heap.size,0,none⟩) 1 1) (vZ)) (fun b hb hlt=>⟨hb,by simp;exact hb.2.1⟩)));unfold st8 at HG HB0 HF HP HS HX0;go_wp2_with fail;generalize (((((((y4.setCell ⟨T4,0,none⟩ (vI 14)).setCell ⟨T4,1,none⟩ (vI u.at')).setCell ⟨T4,2,none⟩ (.string ⟨(Be v ⟨st0.i+1,st0.ok⟩).toArray⟩)).setCell ⟨T4,3,none⟩ (vI 0)).setCell ⟨T4,4,none⟩ (vE)).setCell ⟨T4,5,none⟩ (vZ)).setCell ⟨T4,6,none⟩ (.slice (some ⟨y4.heap.size,0,none⟩) 1 1)).setCell ⟨T4,7,none⟩ (vZ)=Z at HG HB0 HF HP HS HX0 ⊢;have hZ4:=Aa HG.out;have row:=An.lit As (T:=27) (size:=8) (ok:=fun b=>B<b∧¬ b=T4∧¬ b=P) HX0.out rfl (by exact⟨oM,oM,oM⟩);rw[HS.out] at row;have hxx:=Ak.of_rows (k:=14) (a:=u.at') (nm:=Be v ⟨st0.i+1,st0.ok⟩) (n:=0) (s:=[]) (c5:=fun _=>[]) (c7:=fun _=>[]) An.nil_ row An.nil_;have hPz:=HP.out.fr ((Fr.refl [] Z).alloc (.cells #[vI k0,vI a0,vS nm0,vI n0,vS s0,.slice A50 n50 c50,.slice A60 n60 c60,.slice A70 n70 c70] 27));have hpl:=hPz.pl;have hpl0:=h0.pl;have hin0:=h0.inb;have hns:=Xs v ⟨st0.i+1,st0.ok⟩;simp only at hns
  go_roundw
  case rel=>exact⟨14,u.at',Be v ⟨st0.i+1,st0.ok⟩,0,[],[],[(.mk k0 a0 nm0 n0 s0 ls0 args0 arms0)],[],none,0,0,some ⟨y4.heap.size,0,none⟩,1,1,none,0,0,El v ⟨st0.i+1,st0.ok⟩,HF.out.alloc _,hBT,by simp;omega,Ae HB0.out _,Ae HG.out _,hxx,hPz,oM,Hz (fun x st' h=>HR.out _ _ (.look hu (by rw[if_pos hc];exact .adv (.name_ hv (.callE h .retE)))))⟩
  case measure=>rw[hpl,hpl0];omega
 case hB =>
  go_simp;refine hK5.out _ _ ?hS4 (fun hHeld=>?hq4)
  case hS4=>exact⟨(Ac (Ae q0 _)).1,(Ar (Ae q5 _)).2.1⟩
  clear hK5 K5
  (try simp only[Act.put,sX])
  refine Am (i:=3) rfl kR (fun K3 hK3=>?hr5);go_simp;refine(cN _ (h3.fr ((Fr.refl [] y3).alloc _).drew)).out.mono ?_;rintro e y4 ⟨rfl,h4,f4⟩;have Q4:=f4.keep (w:=(y3.alloc (.cells #[vI k0,vI a0,vS nm0,vI n0,vS s0,.slice A50 n50 c50,.slice A60 n60 c60,.slice A70 n70 c70] 27)).drew) (Ae q0 (.cells #[vI k0,vI a0,vS nm0,vI n0,vS s0,.slice A50 n50 c50,.slice A60 n60 c60,.slice A70 n70 c70] 27)) sO;have Q5:=f4.keep (w:=(y3.alloc (.cells #[vI k0,vI a0,vS nm0,vI n0,vS s0,.slice A50 n50 c50,.slice A60 n60 c60,.slice A70 n70 c70] 27)).drew) (Ae q5 (.cells #[vI k0,vI a0,vS nm0,vI n0,vS s0,.slice A50 n50 c50,.slice A60 n60 c60,.slice A70 n70 c70] 27)) sO;have hT44:=Aa Q4;have hT54:=Aa Q5;have M5:=Ar Q5;obtain⟨⟨u0,u1,u2,u3,u4,u5,u6,u7⟩,z0,z1,z2,z3,z4,z5,z6,z7⟩:=Ac Q4;go_simp;refine hK3.out _ _ ?hS5 (fun hHeld=>?hq5)
  case hS5=>exact⟨(Ac Q4).1,M5.2.1⟩
  clear hK3 K3
  (try simp only[Act.put,sX])
  refine Af (i:=6) (v:=?v6) rfl kR kR kR (fun _ _ _ h=>h) (Or.inl ⟨by rfl,?hy6⟩) aS ?hr6
  case hy6 =>
   exact qq9
  (try simp only[Act.put,sX])
  refine wpAnyH_done kR ?hr7 _;refine Bi rfl ?hq7;go_simp;refine hK.out _ _ ?hs7;clear hK K;clear M5 u0 u1 u2 u3 u4 u5 u6 u7 z0 z1 z2 z3 z4 z5 z6 z7 l0 l1 l2 l3 l4 l5 l6 l7 m0 m1 m2 m3;have f4:Fr [P] (y3.alloc (.cells #[vI k0,vI a0,vS nm0,vI n0,vS s0,.slice A50 n50 c50,.slice A60 n60 c60,.slice A70 n70 c70] 27)) y4:=((Fr.refl [P] _).drew).trans f4;have row3:=An.lit As (T:=27) (size:=8) (ok:=fun b=>B<b∧¬ b=T4∧¬ b=P) hx0 rfl (by exact⟨oM,oM,oM⟩);have row4:=An.keep (ok':=fun b=>B<b∧¬ b=T4∧¬ b=P) As row3 (Sh.of_fr f4 (fun b hb hlt=>⟨hb,by simp;exact hb.2.2⟩));have g0:=f4.keep (Ae g0 (.cells #[vI k0,vI a0,vS nm0,vI n0,vS s0,.slice A50 n50 c50,.slice A60 n60 c60,.slice A70 n70 c70] 27)) (by simpa using nB);have hx0:=hx0.keep (ok':=fun b=>B<b∧¬ b=T4∧¬ b=P) (Sh.of_fr (((Fr.refl [P] y3).alloc (.cells #[vI k0,vI a0,vS nm0,vI n0,vS s0,.slice A50 n50 c50,.slice A60 n60 c60,.slice A70 n70 c70] 27)).trans f4) (fun b hb hlt=>⟨hb,by simp;exact hb.2.2⟩));have hne4:¬ B=T4:=by omega
  have HG:=Hz (Aq Q4 (vI 14) (vI u.at') (.string ⟨(Be v ⟨st0.i+1,st0.ok⟩).toArray⟩) (vI 0) (vE) (vZ) (.slice (some ⟨y3.heap.size,0,none⟩) 1 1) (vZ));have HB0:=Hz ((Aj y4 T4 (vI 14) (vI u.at') (.string ⟨(Be v ⟨st0.i+1,st0.ok⟩).toArray⟩) (vI 0) (vE) (vZ) (.slice (some ⟨y3.heap.size,0,none⟩) 1 1) (vZ)).keep g0 sO);have HF:=Hz ((F3.trans (((Fr.refl [P] y3).alloc _).trans f4)).step (Aj y4 T4 (vI 14) (vI u.at') (.string ⟨(Be v ⟨st0.i+1,st0.ok⟩).toArray⟩) (vI 0) (vE) (vZ) (.slice (some ⟨y3.heap.size,0,none⟩) 1 1) (vZ)) (fun x hx => .inr (by simp at hx;omega)));have HP:=Hz ((h4).frL (Aj y4 T4 (vI 14) (vI u.at') (.string ⟨(Be v ⟨st0.i+1,st0.ok⟩).toArray⟩) (vI 0) (vE) (vZ) (.slice (some ⟨y3.heap.size,0,none⟩) 1 1) (vZ)) sO sO);have HS:=Hz (E0 y4 T4 (vI 14) (vI u.at') (.string ⟨(Be v ⟨st0.i+1,st0.ok⟩).toArray⟩) (vI 0) (vE) (vZ) (.slice (some ⟨y3.heap.size,0,none⟩) 1 1) (vZ));have HX0:Hid (Ak (st8 y4 T4 (vI 14) (vI u.at') (.string ⟨(Be v ⟨st0.i+1,st0.ok⟩).toArray⟩) (vI 0) (vE) (vZ) (.slice (some ⟨y3.heap.size,0,none⟩) 1 1) (vZ)) (fun b=>B<b∧¬ b=T4∧¬ b=P) (.mk k0 a0 nm0 n0 s0 ls0 args0 arms0) [vI k0,vI a0,vS nm0,vI n0,vS s0,.slice A50 n50 c50,.slice A60 n60 c60,.slice A70 n70 c70]):=Hz ((hx0).keep (Sh.of_fr (Aj y4 T4 (vI 14) (vI u.at') (.string ⟨(Be v ⟨st0.i+1,st0.ok⟩).toArray⟩) (vI 0) (vE) (vZ) (.slice (some ⟨y3.heap.size,0,none⟩) 1 1) (vZ)) (fun b hb hlt=>⟨hb,by simp;exact hb.2.1⟩)));have HW0:=Hz (An.keep (ok':=fun b=>B<b∧¬ b=T4∧¬ b=P) As row4 (Sh.of_fr (Aj y4 T4 (vI 14) (vI u.at') (.string ⟨(Be v ⟨st0.i+1,st0.ok⟩).toArray⟩) (vI 0) (vE) (vZ) (.slice (some ⟨y3.heap.size,0,none⟩) 1 1) (vZ)) (fun b hb hlt=>⟨hb,by simp;exact hb.2.1⟩)));unfold st8 at HG HB0 HF HP HS HX0 HW0;go_wp2_with fail;generalize (((((((y4.setCell ⟨T4,0,none⟩ (vI 14)).setCell ⟨T4,1,none⟩ (vI u.at')).setCell ⟨T4,2,none⟩ (.string ⟨(Be v ⟨st0.i+1,st0.ok⟩).toArray⟩)).setCell ⟨T4,3,none⟩ (vI 0)).setCell ⟨T4,4,none⟩ (vE)).setCell ⟨T4,5,none⟩ (vZ)).setCell ⟨T4,6,none⟩ (.slice (some ⟨y3.heap.size,0,none⟩) 1 1)).setCell ⟨T4,7,none⟩ (vZ)=Z at HG HB0 HF HP HS HX0 HW0 ⊢;have hZ4:=Aa HG.out;have hxx:=Ak.of_rows (k:=14) (a:=u.at') (nm:=Be v ⟨st0.i+1,st0.ok⟩) (n:=0) (s:=[]) (c5:=fun _=>[]) (c7:=fun _=>[]) An.nil_ HW0.out An.nil_;have hPz:=HP.out;have hpl:=hPz.pl;have hpl0:=h0.pl;have hin0:=h0.inb;have hns:=Xs v ⟨st0.i+1,st0.ok⟩;simp only at hns
  go_roundw
  case rel=>exact⟨14,u.at',Be v ⟨st0.i+1,st0.ok⟩,0,[],[],[(.mk k0 a0 nm0 n0 s0 ls0 args0 arms0)],[],none,0,0,some ⟨y3.heap.size,0,none⟩,1,1,none,0,0,El v ⟨st0.i+1,st0.ok⟩,HF.out,hBT,by exact hZ4,HB0.out,HG.out,hxx,hPz,oM,Hz (fun x st' h=>HR.out _ _ (.look hu (by rw[if_pos hc];exact .adv (.name_ hv (.callE h .retE)))))⟩
  case measure=>rw[hpl,hpl0];omega):p:=h
theorem nn346(h:p:=by
 have F1:Fr [P] w x1:=(f5.mono (fun x hx=>by cases hx)).trans f1;have hle:=hr1.le;clear q3 hT4 hs3 f4 f3 fb4 h4 h5 f5;go_wp2_with fail;have kqq33:=@Hz _ @nn103;exact qq33):p:=h
theorem nn360(h:p:=by
 have fa:=(Fr.refl [] wr).alloc (.cells #[.string ⟨[46].toArray⟩] 9);have ci:=fun cl=>Hz (Ic P g c ts st0 u hu wr.heap.size cl [[46]] sM (wr.alloc (.cells #[.string ⟨[46].toArray⟩] 9)) (h0.fr fa) (Gm.one wr [46] _) sM HE.out)
 cases hc:isB u st0.ok [[46]] with
 | false =>
  rw[hc] at ci;go_wp2_with fail;refine(ci _).out.mono ?_;rintro e y1 ⟨rfl,f1⟩;have f1:=fa.trans f1;have kqq16:=@Hz _ @nn56
  exact qq16
 | true =>
  have kqq246:=@Hz _ @nn484;exact qq246):p:=h
theorem nn484(h:p:=by
 have hx0:=hx0.keep (ok':=fun b=>B<b∧¬ b=T4∧¬ b=P) (Sh.of_fr f2 (fun b hb hlt=>⟨hb,by simp;omega⟩));have kqq123:=@Hz _ @nn328;exact qq123):p:=h
theorem nn521(h:p:=by
 have kqq356:=@Hz _ @nn694;exact qq356):p:=h
theorem nn694(h:p:=by
 go_wp2_with fail
 go_region_held3 (fun w'=>w'.cell? ⟨T3,0,none⟩=some (vI t.k)∧w'.cell? ⟨T3,1,none⟩=some (vI t.at')∧w'.cell? ⟨T3,2,none⟩=some (.string ⟨t.text.toArray⟩)∧w'.cell? ⟨T3,3,none⟩=some (vI t.n)) (first|go_keep|exact⟨M7.1,M7.2.1,M7.2.2.1,M7.2.2.2.1⟩| exact⟨M6.1,M6.2.1,M6.2.2.1,M6.2.2.2.1⟩) ((first|(go_at_call 73;refine(Mi _ t _ _ _ _).mono ?_;rintro e x7 ⟨rfl,f7⟩;have Q7:=f7.keep (Ae Q6 (.cells #[vI k2,vI a2,vS nm2,vI n2,vS s2,.slice A52 n52 c52,.slice A62 n62 c62,.slice A72 n72 c72] 27)) nE;have hT7:=Aa Q7;have M7:=Ar Q7;have G7:=f7.keep (Ae G6 (.cells #[vI k2,vI a2,vS nm2,vI n2,vS s2,.slice A52 n52 c52,.slice A62 n62 c62,.slice A72 n72 c72] 27)) nE;have hB7:=Aa G7;obtain⟨⟨u0,u1,u2,u3,u4,u5,u6,u7⟩,z0,z1,z2,z3,z4,z5,z6,z7⟩:=Ac G7)| (go_at_call 71;refine(cS _ (h5.fr (Fr.refl [] x5).drew)).out.mono ?_;rintro e x6 ⟨k2,a2,nm2,n2,s2,ls2,args2,arms2,A52,n52,c52,A62,n62,c62,A72,n72,c72,st2,rfl,hx2,hr2,hst2,f6⟩;have Q6:=f6.keep (w:=x5.drew) q3 sO;have hT6:=Aa Q6;have M6:=Ar Q6;have G6:=f6.keep (w:=x5.drew) g0 (by simpa using nB);have hB6:=Aa G6)))
 have kqq111:=@Hz _ @nn293;exact qq111):p:=h
theorem post_step(ts:List Tok)(hE:Cx ts)(N:Nat)(ih:Hi ts N):GE ts (N+1) 4 .post 71:=by
 intro P g c st w h hm;have kqq68:=@Hz _ @nn191;exact qq68
theorem nn55(h:p:=by
 refine bodyPost_ret (v:=.agg #[vI k0,vI a0,vS nm0,vI n0,vS s0,.slice A50 n50 c50,.slice A60 n60 c60,.slice A70 n70 c70]) ?_ rfl ?_
 ·simp[results,Tryz.f161,go_sem,d0,d1,d2,d3,d4,d5,d6,d7]
 ·exact qq141):p:=h
theorem nn70(h:p:=by
 refine(IH.out.prod P g c st w1 (H.out.fr f0) (by have:=HN.out;omega)).mono ?_;have kqq144:=@Hz _ @nn347;exact qq144):p:=h
theorem nn104(h:p:=by
 have kqq268:=@Hz _ @nn531;exact qq268):p:=h
theorem nn168(h:p:=by
 have cE:=fun W hW=>Hz (IH.out.prod P g c ⟨st0.i+1,st0.ok⟩ W hW (by have:=HN.out;have:=h3.inb;simp only at this ⊢;omega))
 obtain⟨⟨l0,l1,l2,l3,l4,l5,l6,l7⟩,_⟩:=Ac q0;obtain⟨m0,m1,m2,m3,_⟩:=Ar q5;have n45:¬ T3=T5:=by omega
 have n54:¬ T5=T3:=by omega
 clear F2 h2 f2 f1 fa ci;refine Lk (fun w'=>(w'.cell? ⟨T3,0,none⟩=some (vI k0)∧w'.cell? ⟨T3,1,none⟩=some (vI a0)∧w'.cell? ⟨T3,2,none⟩=some (vS nm0)∧w'.cell? ⟨T3,3,none⟩=some (vI n0)∧w'.cell? ⟨T3,4,none⟩=some (vS s0)∧w'.cell? ⟨T3,5,none⟩=some (.slice A50 n50 c50)∧w'.cell? ⟨T3,6,none⟩=some (.slice A60 n60 c60)∧w'.cell? ⟨T3,7,none⟩=some (.slice A70 n70 c70))∧w'.cell? ⟨T5,0,none⟩=some (vI u.k)∧w'.cell? ⟨T5,1,none⟩=some (vI u.at')∧w'.cell? ⟨T5,2,none⟩=some (.string ⟨u.text.toArray⟩)∧w'.cell? ⟨T5,3,none⟩=some (vI u.n)) kR kR ?hS0 (fun K hK hHeld=>?hr0)
 case hS0=>go_keep
 have kqq330:=@Hz _ @nn618;exact qq330):p:=h
theorem nn190(h:p:=by
 go_enter func161,ntmps161;have kqq18:=@Hz _ @nn70;exact qq18):p:=h
theorem nn277(h:p:=by
 refine hK8.out _ _ ?hS9 (fun hHeld=>?hq9)
 case hS9=>exact⟨(Ac R4).1,M6.1,M6.2.1,M6.2.2.1,M6.2.2.2.1⟩
 clear hK8 K8
 (try simp only[Act.put,sX])
 refine wpAnyH_done kR ?hr10 _;refine Bi rfl ?hq10;go_simp;refine hK.out _ _ ?hs10;exact qq20):p:=h
theorem nn347(h:p:=by
 have F1:Fr [P] w x1:=(f0.mono (fun x hx=>by cases hx)).trans f1;have hle:=hr1.le;go_wp2_with fail;have kqq33:=@Hz _ @nn104;exact qq33):p:=h
theorem nn359(h:p:=by
 have fa:=(Fr.refl [] wr).alloc (.cells #[.string ⟨[43].toArray⟩,.string ⟨[45].toArray⟩] 9);have hSt:Gm wr.heap.size [[43],[45]] (wr.alloc (.cells #[.string ⟨[43].toArray⟩,.string ⟨[45].toArray⟩] 9)):=Gm.lit wr [[43],[45]] _;have ci:=fun cl=>Hz (Ic P g c ts st0 u hu wr.heap.size cl [[43],[45]] sM (wr.alloc (.cells #[.string ⟨[43].toArray⟩,.string ⟨[45].toArray⟩] 9)) (h0.fr fa) hSt sM HE.out)
 clear hSt
 cases hc:isB u st0.ok [[43],[45]] with
 | false =>
  rw[hc] at ci;go_wp2_with fail;refine(ci _).out.mono ?_;rintro e y1 ⟨rfl,f1⟩;have f1:=fa.trans f1;have kqq16:=@Hz _ @nn55
  exact qq16
 | true =>
  have kqq60:=@Hz _ @nn168;exact qq60):p:=h
theorem nn487(h:p:=by
 refine hK6.out _ _ ?hS7 (fun hHeld=>?hq7)
 case hS7=>exact⟨(Ac Q4).1,M5.1,M5.2.1,M5.2.2.1,M5.2.2.2.1⟩
 clear hK6 K6
 (try simp only[Act.put,sX])
 refine Am (i:=7) rfl kR (fun K7 hK7=>?hr8);go_simp;refine hK7.out _ _ ?hS8 (fun hHeld=>?hq8)
 case hS8=>exact⟨(Ac (Ae Q4 _)).1,(Ar (Ae Q5 _)).1,(Ar (Ae Q5 _)).2.1,(Ar (Ae Q5 _)).2.2.1,(Ar (Ae Q5 _)).2.2.2.1⟩
 clear hK7 K7
 (try simp only[Act.put,sX])
 refine Am (i:=8) rfl kR (fun K8 hK8=>?hr9);have kqq99:=@Hz _ @nn277;exact qq99):p:=h
theorem nn531(h:p:=by
 have HR0:Hid (∀ x st',Run ts (body (.sumL (.mk k1 a1 nm1 n1 s1 ls1 args1 arms1))) st1 (.e x) st'→Run ts (body .sum) st (.e x) st'):=Hz (fun x st' h => .callE hr1 (.callE h .retE));have hBT:B<T3:=by have:=Aa hGx;omega
 clear hst1 hr1 fb1 f1 F1 hs1 H hGx
 go_loopw [] (fun wr=>∃ (k0 a0:Int) (nm0:LB) (n0:Int) (s0:LB) (ls0:List LB) (args0:List Ad) (arms0:List (Al×Ad)) (A50:Option Addr) (n50 c50:Nat) (A60:Option Addr) (n60 c60:Nat) (A70:Option Addr) (n70 c70:Nat) (st0:St),Fr [P] w wr∧B<T3∧T3<wr.heap.size∧wr.heap[B]?=some (.cells #[vI 0,vI 0,vE,vI 0,vE,vZ,vZ,vZ] 27 (0,0))∧wr.heap[T3]?=some (.cells #[vI k0,vI a0,vS nm0,vI n0,vS s0,.slice A50 n50 c50,.slice A60 n60 c60,.slice A70 n70 c70] 27 (0,0))∧Ak wr (fun b=>B<b∧¬ b=T3∧¬ b=P) (.mk k0 a0 nm0 n0 s0 ls0 args0 arms0) [vI k0,vI a0,vS nm0,vI n0,vS s0,.slice A50 n50 c50,.slice A60 n60 c60,.slice A70 n70 c70]∧PSt P g c ts st0 wr∧st.i≤st0.i∧Hid (∀ x st',Run ts (body (.sumL (.mk k0 a0 nm0 n0 s0 ls0 args0 arms0))) st0 (.e x) st'→Run ts (body .sum) st (.e x) st')) (fun wr=>ts.length-plI wr P)
 case atStart=>exact⟨k1,a1,nm1,n1,s1,ls1,args1,arms1,A51,n51,c51,A61,n61,c61,A71,n71,c71,st1,F2,hBT,hT1,g0,q1,hx1,h2,hle,HR0⟩
 case round =>
  have kqq148:=@Hz _ @nn359;exact qq148):p:=h
theorem nn618(h:p:=by
 refine Af (i:=3) (v:=?v3) rfl kR kR kR (fun _ _ _ h=>h) (Or.inl ⟨by rfl,?hy3⟩) aS ?hr3
 case hy3 =>
  exact qq9
 (try simp only[Act.put,sX])
 refine Af (i:=4) (v:=?v4) rfl kR kR kR (fun _ _ _ h=>h) (Or.inl ⟨by rfl,?hy4⟩) aS ?hr4
 case hy4 =>
  exact qq9
 (try simp only[Act.put,sX])
 refine Af (i:=5) (v:=?v5) rfl kR kR kR (fun _ _ _ h=>h) (Or.inl ⟨by rfl,?hy5⟩) aS ?hr5
 case hy5 =>
  exact qq9
 (try simp only[Act.put,sX])
 refine Am (i:=2) rfl kR (fun K2 hK2=>?hr6);go_simp;refine(N5 u.text _).mono ?_;rintro e w9 ⟨rfl,rfl⟩;go_simp;refine hK2.out _ _ ?hS6 (fun hHeld=>?hq6)
 case hS6=>go_keep
 clear hK2 K2
 (try simp only[Act.put,sX])
 refine Am (i:=6) rfl kR (fun K6 hK6=>?hr7);have kqq248:=@Hz _ @nn487;exact qq248):p:=h
theorem sum_step(ts:List Tok)(hE:Cx ts)(N:Nat)(ih:Hi ts N):GE ts (N+1) 8 .sum 161:=by
 intro P g c st w h hm;have kqq68:=@Hz _ @nn190;exact qq68
theorem nn54(h:p:=by
 refine bodyPost_ret (v:=.agg #[vI k0,vI a0,vS nm0,vI n0,vS s0,.slice A50 n50 c50,.slice A60 n60 c60,.slice A70 n70 c70]) ?_ rfl ?_
 ·simp[results,Tryz.f178,go_sem,d0,d1,d2,d3,d4,d5,d6,d7]
 ·exact qq141):p:=h
theorem nn69(h:p:=by
 refine(IH.out.unary P g c st w1 (H.out.fr f0) (by have:=HN.out;omega)).mono ?_;have kqq144:=@Hz _ @nn348;exact qq144):p:=h
theorem nn105(h:p:=by
 have kqq268:=@Hz _ @nn530;exact qq268):p:=h
theorem nn169(h:p:=by
 have cE:=fun W hW=>Hz (IH.out.unary P g c ⟨st0.i+1,st0.ok⟩ W hW (by have:=HN.out;have:=h3.inb;simp only at this ⊢;omega))
 obtain⟨⟨l0,l1,l2,l3,l4,l5,l6,l7⟩,_⟩:=Ac q0;obtain⟨m0,m1,m2,m3,_⟩:=Ar q5;have n45:¬ T3=T5:=by omega
 have n54:¬ T5=T3:=by omega
 clear F2 h2 f2 f1 fa ci;refine Lk (fun w'=>(w'.cell? ⟨T3,0,none⟩=some (vI k0)∧w'.cell? ⟨T3,1,none⟩=some (vI a0)∧w'.cell? ⟨T3,2,none⟩=some (vS nm0)∧w'.cell? ⟨T3,3,none⟩=some (vI n0)∧w'.cell? ⟨T3,4,none⟩=some (vS s0)∧w'.cell? ⟨T3,5,none⟩=some (.slice A50 n50 c50)∧w'.cell? ⟨T3,6,none⟩=some (.slice A60 n60 c60)∧w'.cell? ⟨T3,7,none⟩=some (.slice A70 n70 c70))∧w'.cell? ⟨T5,0,none⟩=some (vI u.k)∧w'.cell? ⟨T5,1,none⟩=some (vI u.at')∧w'.cell? ⟨T5,2,none⟩=some (.string ⟨u.text.toArray⟩)∧w'.cell? ⟨T5,3,none⟩=some (vI u.n)) kR kR ?hS11 (fun K hK hHeld=>?hr11)
 case hS11=>go_keep
 refine Af (i:=0) (v:=?v12) rfl kR kR kR (fun _ _ _ h=>h) (Or.inl ⟨by rfl,?hy12⟩) aS ?hr12
 case hy12 =>
  exact qq9
 (try simp only[Act.put,sX])
 refine Af (i:=1) (v:=?v13) rfl kR kR kR (fun _ _ _ h=>h) (Or.inl ⟨by rfl,?hy13⟩) aS ?hr13
 case hy13 =>
  exact qq9
 (try simp only[Act.put,sX])
 refine Af (i:=3) (v:=?v14) rfl kR kR kR (fun _ _ _ h=>h) (Or.inl ⟨by rfl,?hy14⟩) aS ?hr14
 case hy14 =>
  exact qq9
 (try simp only[Act.put,sX])
 refine Af (i:=4) (v:=?v15) rfl kR kR kR (fun _ _ _ h=>h) (Or.inl ⟨by rfl,?hy15⟩) aS ?hr15
 case hy15 =>
  exact qq9
 (try simp only[Act.put,sX])
 refine Af (i:=5) (v:=?v16) rfl kR kR kR (fun _ _ _ h=>h) (Or.inl ⟨by rfl,?hy16⟩) aS ?hr16
 case hy16 =>
  exact qq9
 (try simp only[Act.put,sX])
 refine Am (i:=2) rfl kR (fun K2 hK2=>?hr17);go_simp;refine(N5 u.text _).mono ?_;rintro e w9 ⟨rfl,rfl⟩;go_simp;refine hK2.out _ _ ?hS17 (fun hHeld=>?hq17)
 case hS17=>go_keep
 clear hK2 K2
 (try simp only[Act.put,sX])
 refine Am (i:=6) rfl kR (fun K6 hK6=>?hr18);have kqq248:=@Hz _ @nn486;exact qq248):p:=h
theorem nn189(h:p:=by
 go_enter func178,ntmps178;have kqq18:=@Hz _ @nn69;exact qq18):p:=h
theorem nn276(h:p:=by
 refine hK8.out _ _ ?hS20 (fun hHeld=>?hq20)
 case hS20=>exact⟨(Ac R4).1,M6.1,M6.2.1,M6.2.2.1,M6.2.2.2.1⟩
 clear hK8 K8
 (try simp only[Act.put,sX])
 refine wpAnyH_done kR ?hr21 _;refine Bi rfl ?hq21;go_simp;refine hK.out _ _ ?hs21;exact qq20):p:=h
theorem nn348(h:p:=by
 have F1:Fr [P] w x1:=(f0.mono (fun x hx=>by cases hx)).trans f1;have hle:=hr1.le;go_wp2_with fail;have kqq33:=@Hz _ @nn105;exact qq33):p:=h
theorem nn358(h:p:=by
 have fa:=(Fr.refl [] wr).alloc (.cells #[.string ⟨[42].toArray⟩,.string ⟨[47].toArray⟩,.string ⟨[37].toArray⟩] 9);have hSt:Gm wr.heap.size [[42],[47],[37]] (wr.alloc (.cells #[.string ⟨[42].toArray⟩,.string ⟨[47].toArray⟩,.string ⟨[37].toArray⟩] 9)):=Gm.lit wr [[42],[47],[37]] _;have ci:=fun cl=>Hz (Ic P g c ts st0 u hu wr.heap.size cl [[42],[47],[37]] sM (wr.alloc (.cells #[.string ⟨[42].toArray⟩,.string ⟨[47].toArray⟩,.string ⟨[37].toArray⟩] 9)) (h0.fr fa) hSt sM HE.out)
 clear hSt
 cases hc:isB u st0.ok [[42],[47],[37]] with
 | false =>
  rw[hc] at ci;go_wp2_with fail;refine(ci _).out.mono ?_;rintro e y1 ⟨rfl,f1⟩;have f1:=fa.trans f1;have kqq16:=@Hz _ @nn54
  exact qq16
 | true =>
  have kqq60:=@Hz _ @nn169;exact qq60):p:=h
theorem nn486(h:p:=by
 refine hK6.out _ _ ?hS18 (fun hHeld=>?hq18)
 case hS18=>exact⟨(Ac Q4).1,M5.1,M5.2.1,M5.2.2.1,M5.2.2.2.1⟩
 clear hK6 K6
 (try simp only[Act.put,sX])
 refine Am (i:=7) rfl kR (fun K7 hK7=>?hr19);go_simp;refine hK7.out _ _ ?hS19 (fun hHeld=>?hq19)
 case hS19=>exact⟨(Ac (Ae Q4 _)).1,(Ar (Ae Q5 _)).1,(Ar (Ae Q5 _)).2.1,(Ar (Ae Q5 _)).2.2.1,(Ar (Ae Q5 _)).2.2.2.1⟩
 clear hK7 K7
 (try simp only[Act.put,sX])
 refine Am (i:=8) rfl kR (fun K8 hK8=>?hr20);have kqq99:=@Hz _ @nn276;exact qq99):p:=h
theorem nn530(h:p:=by
 have HR0:Hid (∀ x st',Run ts (body (.prodL (.mk k1 a1 nm1 n1 s1 ls1 args1 arms1))) st1 (.e x) st'→Run ts (body .prod) st (.e x) st'):=Hz (fun x st' h => .callE hr1 (.callE h .retE));have hBT:B<T3:=by have:=Aa hGx;omega
 clear hst1 hr1 fb1 f1 F1 hs1 H hGx
 go_loopw [] (fun wr=>∃ (k0 a0:Int) (nm0:LB) (n0:Int) (s0:LB) (ls0:List LB) (args0:List Ad) (arms0:List (Al×Ad)) (A50:Option Addr) (n50 c50:Nat) (A60:Option Addr) (n60 c60:Nat) (A70:Option Addr) (n70 c70:Nat) (st0:St),Fr [P] w wr∧B<T3∧T3<wr.heap.size∧wr.heap[B]?=some (.cells #[vI 0,vI 0,vE,vI 0,vE,vZ,vZ,vZ] 27 (0,0))∧wr.heap[T3]?=some (.cells #[vI k0,vI a0,vS nm0,vI n0,vS s0,.slice A50 n50 c50,.slice A60 n60 c60,.slice A70 n70 c70] 27 (0,0))∧Ak wr (fun b=>B<b∧¬ b=T3∧¬ b=P) (.mk k0 a0 nm0 n0 s0 ls0 args0 arms0) [vI k0,vI a0,vS nm0,vI n0,vS s0,.slice A50 n50 c50,.slice A60 n60 c60,.slice A70 n70 c70]∧PSt P g c ts st0 wr∧st.i≤st0.i∧Hid (∀ x st',Run ts (body (.prodL (.mk k0 a0 nm0 n0 s0 ls0 args0 arms0))) st0 (.e x) st'→Run ts (body .prod) st (.e x) st')) (fun wr=>ts.length-plI wr P)
 case atStart=>exact⟨k1,a1,nm1,n1,s1,ls1,args1,arms1,A51,n51,c51,A61,n61,c61,A71,n71,c71,st1,F2,hBT,hT1,g0,q1,hx1,h2,hle,HR0⟩
 case round =>
  have kqq148:=@Hz _ @nn358;exact qq148):p:=h
theorem prod_step(ts:List Tok)(hE:Cx ts)(N:Nat)(ih:Hi ts N):GE ts (N+1) 7 .prod 178:=by
 intro P g c st w h hm;have kqq68:=@Hz _ @nn189;exact qq68
theorem nn27(h:p:=by
 refine bodyPost_ret (v:=.agg #[vI k1,vI a1,vS nm1,vI n1,vS s1,.slice A51 n51 c51,.slice A61 n61 c61,.slice A71 n71 c71]) ?_ rfl ?_
 ·simp[results,Tryz.f141,go_sem,d0,d1,d2,d3,d4,d5,d6,d7]
 ·exact⟨_,_,_,_,_,_,_,_,_,_,_,_,_,_,_,_,_,_,rfl,by rw[hB];exact HX.out,.callE hr1 (.look ht (by rw[if_neg (by rw[hb];decide)];exact .retE)),HP.out,HF.out⟩):p:=h
theorem nn57(h:p:=by
 have fa:=(Fr.refl [] x4).alloc (.cells #[.string ⟨[61].toArray⟩,.string ⟨[60].toArray⟩] 9);have hSt:Gm x4.heap.size [[61],[60]] (x4.alloc (.cells #[.string ⟨[61].toArray⟩,.string ⟨[60].toArray⟩] 9)):=Gm.lit x4 [[61],[60]] _;have hz4:x4.heap.size=T4+1:=by rw[← hY4,← hTT4];simp
 rw[hz4] at hSt;have ci:=fun cl=>Hz (Ic P g c ts st1 t ht (T4+1) cl [[61],[60]] sM (x4.alloc (.cells #[.string ⟨[61].toArray⟩,.string ⟨[60].toArray⟩] 9)) (h4.fr fa) hSt (by simp[hz4]) HE.out)
 clear hSt hz4;have hle:=hr1.le
 cases hb:isB t st1.ok [[61],[60]] with
 | false =>
  rw[hb] at ci;refine(ci _).out.mono ?_;rintro e x5 ⟨rfl,f5⟩;have f5:=fa.trans f5;have kqq12:=@Hz _ @nn27
  exact qq12
 | true =>
  rw[hb] at ci;have HK:=Hz (Jg hb);refine(ci _).out.mono ?_;rintro e y5 ⟨rfl,f5⟩;have f5:=fa.trans f5;go_wp2_with fail;refine(Et P g c ts st1 t ht HK.out.1 HK.out.2 y5 (h4.fr f5) HE.out).mono ?_;rintro e x5 ⟨rfl,h5,f5'⟩;have f5:=(f5.mono (L':=[P]) (fun x hx=>by cases hx)).trans f5';have kqq258:=@Hz _ @nn519;exact qq258):p:=h
theorem nn162(h:p:=by
 refine(IH.out.sum P g c st w1 (H.out.fr f0) (by have:=HN.out;omega)).mono ?_;have kqq17:=@Hz _ @nn57;exact qq17):p:=h
theorem nn195(h:p:=by
 have HG:=Hz (Aq G7 (vI 19) (vI t.at') (vE) (vI (Bm t.text)) (vE) (vZ) (.slice (some ⟨x6.heap.size,0,none⟩) 2 2) (vZ));have HF:=Hz ((F5.trans (f6.trans0 (((Fr.refl [] x6).alloc _).trans f7))).step (Aj x7 B (vI 19) (vI t.at') (vE) (vI (Bm t.text)) (vE) (vZ) (.slice (some ⟨x6.heap.size,0,none⟩) 2 2) (vZ)) (fun x hx => .inr (by simp at hx;omega)));have HP:=Hz (((hst2.fr (((Fr.refl [] x6).alloc _).trans f7))).frL (Aj x7 B (vI 19) (vI t.at') (vE) (vI (Bm t.text)) (vE) (vZ) (.slice (some ⟨x6.heap.size,0,none⟩) 2 2) (vZ)) (by simpa using nP) (by simpa using ng));have HR:=Hz (An.keep (ok':=fun b=>B≤b) As row7 (Sh.of_fr (Aj x7 B (vI 19) (vI t.at') (vE) (vI (Bm t.text)) (vE) (vZ) (.slice (some ⟨x6.heap.size,0,none⟩) 2 2) (vZ)) (fun b hb hlt=>⟨oM,by simp;omega⟩)));unfold st8 at HG HF HP HR;go_wp2_with fail;generalize (((((((x7.setCell ⟨B,0,none⟩ (vI 19)).setCell ⟨B,1,none⟩ (vI t.at')).setCell ⟨B,2,none⟩ (vE)).setCell ⟨B,3,none⟩ (vI (Bm t.text))).setCell ⟨B,4,none⟩ (vE)).setCell ⟨B,5,none⟩ (vZ)).setCell ⟨B,6,none⟩ (.slice (some ⟨x6.heap.size,0,none⟩) 2 2)).setCell ⟨B,7,none⟩ (vZ)=Z at HG HF HP HR ⊢;obtain⟨⟨d0,d1,d2,d3,d4,d5,d6,d7⟩,_⟩:=Ac HG.out;have hxx:=Ak.of_rows (k:=19) (a:=t.at') (nm:=[]) (n:=Bm t.text) (s:=[]) (c5:=fun _=>[]) (c7:=fun _=>[]) An.nil_ HR.out An.nil_;refine bodyPost_ret (v:=.agg #[vI 19,vI t.at',vE,vI (Bm t.text),vE,vZ,.slice (some ⟨x6.heap.size,0,none⟩) 2 2,vZ]) ?_ rfl ?_
 ·simp[results,Tryz.f141,go_sem,d0,d1,d2,d3,d4,d5,d6,d7]
 ·exact⟨_,_,_,_,_,_,_,_,_,_,_,_,_,_,_,_,_,_,rfl,by rw[hB];exact hxx,.callE hr1 (.look ht (by rw[if_pos hb];exact .adv (.callE hr2 .retE))),HP.out,HF.out⟩):p:=h
theorem nn377(h:p:=by
 go_enter func141,ntmps141;have kqq56:=@Hz _ @nn162;exact qq56):p:=h
theorem nn519(h:p:=by
 obtain⟨⟨l0,l1,l2,l3,l4,l5,l6,l7⟩,_⟩:=Ac q1;obtain⟨m0,m1,m2,m3,_⟩:=Ar q4;have cE:=fun W hW=>Hz (IH.out.sum P g c ⟨st1.i+1,st1.ok⟩ W hW (by have:=HN.out;have:=h5.inb;simp only at this ⊢;omega))
 go_wp2_with fail;have n34:¬ T3=T4:=by omega
 have n3B:¬ T3=B:=by omega
 have nB3:¬ B=T3:=by omega
 have n4B:¬ T4=B:=by omega
 have nB4:¬ B=T4:=by omega
 clear fb1 fb4 f1 f3 f4 h2 h4 F1 F2 F4 hst1 H ci fa f5' hY1 hY4
 go_region_held3 (fun w'=>(w'.cell? ⟨T4,0,none⟩=some (vI t.k)∧w'.cell? ⟨T4,1,none⟩=some (vI t.at')∧w'.cell? ⟨T4,2,none⟩=some (.string ⟨t.text.toArray⟩)∧w'.cell? ⟨T4,3,none⟩=some (vI t.n))∧(w'.cell? ⟨T3,0,none⟩=some (vI k1)∧w'.cell? ⟨T3,1,none⟩=some (vI a1)∧w'.cell? ⟨T3,2,none⟩=some (vS nm1)∧w'.cell? ⟨T3,3,none⟩=some (vI n1)∧w'.cell? ⟨T3,4,none⟩=some (vS s1)∧w'.cell? ⟨T3,5,none⟩=some (.slice A51 n51 c51)∧w'.cell? ⟨T3,6,none⟩=some (.slice A61 n61 c61)∧w'.cell? ⟨T3,7,none⟩=some (.slice A71 n71 c71))) (go_keep) ((first|((with_reducible refine(N5 t.text _).mono ?_);rintro e w9 ⟨rfl,rfl⟩)| ((with_reducible refine(cE _ (h5.fr (Fr.refl [] x5).drew)).out.mono ?_);rintro e x6 ⟨k2,a2,nm2,n2,s2,ls2,args2,arms2,A52,n52,c52,A62,n62,c62,A72,n72,c72,st2,rfl,hx2,hr2,hst2,f6⟩;have Q1:=f6.keep (w:=x5.drew) q1 sO;have Q4:=f6.keep (w:=x5.drew) q4 sO;have G6:=f6.keep (w:=x5.drew) g0 (by simpa using nB);have hT36:=Aa Q1;have hT46:=Aa Q4;have hB6:=Aa G6;have M3:=(Ac Q1).1;have M4:=Ar Q4)| ((with_reducible refine(Mi _ t _ _ _ _).mono ?_);rintro e x7 ⟨rfl,f7⟩;have R1:=f7.keep (Ae Q1 (.cells #[vI k1,vI a1,vS nm1,vI n1,vS s1,.slice A51 n51 c51,.slice A61 n61 c61,.slice A71 n71 c71,vI k2,vI a2,vS nm2,vI n2,vS s2,.slice A52 n52 c52,.slice A62 n62 c62,.slice A72 n72 c72] 27)) nE;have R4:=f7.keep (Ae Q4 (.cells #[vI k1,vI a1,vS nm1,vI n1,vS s1,.slice A51 n51 c51,.slice A61 n61 c61,.slice A71 n71 c71,vI k2,vI a2,vS nm2,vI n2,vS s2,.slice A52 n52 c52,.slice A62 n62 c62,.slice A72 n72 c72] 27)) nE;have G7:=f7.keep (Ae G6 (.cells #[vI k1,vI a1,vS nm1,vI n1,vS s1,.slice A51 n51 c51,.slice A61 n61 c61,.slice A71 n71 c71,vI k2,vI a2,vS nm2,vI n2,vS s2,.slice A52 n52 c52,.slice A62 n62 c62,.slice A72 n72 c72] 27)) nE;have hT37:=Aa R1;have hT47:=Aa R4;have hB7:=Aa G7;have M5:=(Ac R1).1;have M6:=Ar R4;obtain⟨⟨u0,u1,u2,u3,u4,u5,u6,u7⟩,z0,z1,z2,z3,z4,z5,z6,z7⟩:=Ac G7)))
 all_goals
  have kqq71:=@Hz _ @nn195;exact qq71):p:=h
theorem cmp_step(ts:List Tok)(hE:Cx ts)(N:Nat)(ih:Hi ts N):GE ts (N+1) 9 .cmp 141:=by
 have kqq175:=@Hz _ @nn377;exact qq175
theorem Bw.leaf(w:World)(ok:Nat→Prop)(k a:Int)(nm:LB)(n:Int)(s:LB):Bw w ok (.mk k a nm n s [] []) [vI k,vI a,vS nm,vI n,vS s,vZ,vZ] :=
 Bw.of_rows (c5:=fun _=>[]) (c6:=fun _=>[]) An.nil_ An.nil_
def GM(ts:List Tok)(N:Nat):Prop:=∀ (P g c:Nat)(st:St)(a:Int)(w:World),PSt P g c ts st w→16 *(ts.length-st.i)<N→Calls prog 160 #[.pointer (some ⟨P,0,none⟩),.agg #[vI 0,vI a,vE,vI 0,vE,vZ,vZ]] w (Tc P g c ts st (Dd (.marked (.mk 0 a [] 0 [] [] []))) w)
theorem nn140(h:p:=by
 refine bodyPost_ret (v:=.agg #[vI k2,vI a2,vS nm2,vI n2,vS s2,.slice A52 n52 c52,.slice A62 n62 c62]) ?_ rfl ?_
 ·exact qq152
 ·exact⟨_,_,_,_,_,_,_,_,_,_,_,_,_,_,rfl,by rw[hB];exact HX.out,.look HT.out (by rw[if_neg (by rw[HOK.out];decide),if_neg HE4.out.1,if_neg HE4.out.2.1,if_neg HE4.out.2.2.1,if_neg HE4.out.2.2.2];exact .callP hr2 .retP),HP.out,HF.out⟩):p:=h
theorem nn202(h:p:=by
 have HG:=Hz (Dm g0 (vI 4) (vI ta) (vE) (vI 0) (vS tt) (vZ) (vZ));have HF:=Hz ((F7).step (Ce x7 B (vI 4) (vI ta) (vE) (vI 0) (vS tt) (vZ) (vZ)) (fun x hx => .inr (by simp at hx;omega)));have HP:=Hz ((h7).frL (Ce x7 B (vI 4) (vI ta) (vE) (vI 0) (vS tt) (vZ) (vZ)) (by simpa using nP) (by simpa using ng));have kqq271:=@Hz _ @nn538;exact qq271):p:=h
theorem nn203(h:p:=by
 have HG:=Hz (Dm g0 (vI 3) (vI ta) (vE) (vI tn) (vE) (vZ) (vZ));have HF:=Hz ((F7).step (Ce x7 B (vI 3) (vI ta) (vE) (vI tn) (vE) (vZ) (vZ)) (fun x hx => .inr (by simp at hx;omega)));have HP:=Hz ((h7).frL (Ce x7 B (vI 3) (vI ta) (vE) (vI tn) (vE) (vZ) (vZ)) (by simpa using nP) (by simpa using ng));have kqq271:=@Hz _ @nn537;exact qq271):p:=h
theorem nn204(h:p:=by
 have HG:=Hz (Dm g0 (vI 7) (vI ta) (vS tt) (vI 0) (vE) (vZ) (vZ));have HF:=Hz ((F7).step (Ce x7 B (vI 7) (vI ta) (vS tt) (vI 0) (vE) (vZ) (vZ)) (fun x hx => .inr (by simp at hx;omega)));have HP:=Hz ((h7).frL (Ce x7 B (vI 7) (vI ta) (vS tt) (vI 0) (vE) (vZ) (vZ)) (by simpa using nP) (by simpa using ng));have kqq271:=@Hz _ @nn536;exact qq271):p:=h
theorem nn205(h:p:=by
 have HG:=Hz (Dm g0 (vI 2) (vI ta) (vS tt) (vI 0) (vE) (vZ) (vZ));have HF:=Hz ((F7).step (Ce x7 B (vI 2) (vI ta) (vS tt) (vI 0) (vE) (vZ) (vZ)) (fun x hx => .inr (by simp at hx;omega)));have HP:=Hz ((h7).frL (Ce x7 B (vI 2) (vI ta) (vS tt) (vI 0) (vE) (vZ) (vZ)) (by simpa using nP) (by simpa using ng));have kqq271:=@Hz _ @nn535;exact qq271):p:=h
theorem nn206(h:p:=by
 have HG:=Hz (Dm g0 (vI 1) (vI ta) (vE) (vI 0) (vE) (vZ) (vZ));have HF:=Hz ((F7).step (Ce x7 B (vI 1) (vI ta) (vE) (vI 0) (vE) (vZ) (vZ)) (fun x hx => .inr (by simp at hx;omega)));have HP:=Hz ((h7).frL (Ce x7 B (vI 1) (vI ta) (vE) (vI 0) (vE) (vZ) (vZ)) (by simpa using nP) (by simpa using ng));have kqq271:=@Hz _ @nn534;exact qq271):p:=h
theorem nn333(h:p:=by
 generalize ((x5.setCell ⟨T3+1,0,none⟩ (vI 4)).setCell ⟨T3+1,4,none⟩ (vS tt)).drew=x6 at *
 go_wp2_with fail;refine(Et P g c ts st ⟨5,ta,tt,tn⟩ HT.out hok sM x6 h6 HE.out).mono ?_;have kqq75:=@Hz _ @nn202;exact qq75):p:=h
theorem nn334(h:p:=by
 generalize ((x5.setCell ⟨T3+1,0,none⟩ (vI 3)).setCell ⟨T3+1,3,none⟩ (vI tn)).drew=x6 at *
 go_wp2_with fail;refine(Et P g c ts st ⟨4,ta,tt,tn⟩ HT.out hok sM x6 h6 HE.out).mono ?_;have kqq75:=@Hz _ @nn203;exact qq75):p:=h
theorem nn335(h:p:=by
 generalize ((x5.setCell ⟨T3+1,0,none⟩ (vI 7)).setCell ⟨T3+1,2,none⟩ (vS tt)).drew=x6 at *
 go_wp2_with fail;refine(Et P g c ts st ⟨2,ta,tt,tn⟩ HT.out hok sM x6 h6 HE.out).mono ?_;have kqq75:=@Hz _ @nn204;exact qq75):p:=h
theorem nn336(h:p:=by
 generalize ((x5.setCell ⟨T3+1,0,none⟩ (vI 2)).setCell ⟨T3+1,2,none⟩ (vS tt)).drew=x6 at *
 obtain⟨m0,m1,m2,m3,_⟩:=Ar q3
 by_cases d0:tt=[95]
 ·subst d0;obtain⟨⟨u0,u1,u2,u3,u4,u5,u6⟩,z0,z1,z2,z3,z4,z5,z6⟩:=Ao q6;have q9:=q6;have hT9:=Aa q9;clear q6;go_wp2_with fail;clear m0 m1 m2 m3 u0 u1 u2 u3 u4 u5 u6 z0 z1 z2 z3 z4 z5 z6;have q6:((x6.setCell ⟨T3+1,0,none⟩ (vI 1)).setCell ⟨T3+1,2,none⟩ (vE)).heap[T3+1]?=some (.cells #[vI 1,vI ta,vE,vI 0,vE,vZ,vZ] 123 (0,0)):=Cl (Cl q9 0 (vI 1)) 2 (vE)
  have fs:Fr [T3+1] x6 ((x6.setCell ⟨T3+1,0,none⟩ (vI 1)).setCell ⟨T3+1,2,none⟩ (vE)):=(((Fr.refl [T3+1] x6).setCell (p:=⟨T3+1,0,none⟩) (.inl sM) _).setCell (p:=⟨T3+1,2,none⟩) (.inl sM) _)
  have g0:=fs.keep g0 sO;have h6:=h6.frL fs sO sO;have F6:=F6.step fs (fun x hx => .inr (by simp at hx;omega));clear q9
  generalize (x6.setCell ⟨T3+1,0,none⟩ (vI 1)).setCell ⟨T3+1,2,none⟩ (vE)=x6 at *
  refine(Et P g c ts st ⟨1,ta,[95],tn⟩ HT.out hok sM x6 h6 HE.out).mono ?_;have kqq75:=@Hz _ @nn206;exact qq75
 ·have c0:(tt==[95])=false:=bN.2 d0;have D0:=Hz d0;clear d0;go_wp2_with fail;clear m0 m1 m2 m3;refine(Et P g c ts st ⟨1,ta,tt,tn⟩ HT.out hok sM x6 h6 HE.out).mono ?_;have kqq75:=@Hz _ @nn205;exact qq75):p:=h
theorem nn479(h:p:=by
 clear m0 m1 m2 m3 u0 u1 u2 u3 u4 u5 u6 z0 z1 z2 z3 z4 z5 z6;refine(IHM.out P g c st ta x5 h5 (by have:=HN.out;omega)).mono ?_;rintro e x6 ⟨k2,a2,nm2,n2,s2,ls2,args2,A52,n52,c52,A62,n62,c62,st2,rfl,hx2,hr2,hst2,f6⟩;have g0:=f6.keep g0 (by simpa using nB);have kqq323:=@Hz _ @nn597;exact qq323):p:=h
theorem nn480(h:p:=by
 go_region_held3 (fun w'=>w'.cell? ⟨T3,2,none⟩=some (vS tt)) (go_keep) (fail)
 have q6:(((x5.setCell ⟨T3+1,0,none⟩ (vI 4)).setCell ⟨T3+1,4,none⟩ (vS tt)).drew).heap[T3+1]?=some (.cells #[vI 4,vI ta,vE,vI 0,vS tt,vZ,vZ] 123 (0,0)):=Cl (Cl q4 0 (vI 4)) 4 (vS tt);have fs:Fr [T3+1] x5 (((x5.setCell ⟨T3+1,0,none⟩ (vI 4)).setCell ⟨T3+1,4,none⟩ (vS tt)).drew):=(((Fr.refl [T3+1] x5).setCell (p:=⟨T3+1,0,none⟩) (.inl sM) _).setCell (p:=⟨T3+1,4,none⟩) (.inl sM) _).drew;have kqq134:=@Hz _ @nn333;exact qq134):p:=h
theorem nn481(h:p:=by
 go_region_held3 (fun w'=>w'.cell? ⟨T3,3,none⟩=some (vI tn)) (go_keep) (fail)
 have q6:(((x5.setCell ⟨T3+1,0,none⟩ (vI 3)).setCell ⟨T3+1,3,none⟩ (vI tn)).drew).heap[T3+1]?=some (.cells #[vI 3,vI ta,vE,vI tn,vE,vZ,vZ] 123 (0,0)):=Cl (Cl q4 0 (vI 3)) 3 (vI tn);have fs:Fr [T3+1] x5 (((x5.setCell ⟨T3+1,0,none⟩ (vI 3)).setCell ⟨T3+1,3,none⟩ (vI tn)).drew):=(((Fr.refl [T3+1] x5).setCell (p:=⟨T3+1,0,none⟩) (.inl sM) _).setCell (p:=⟨T3+1,3,none⟩) (.inl sM) _).drew;have kqq134:=@Hz _ @nn334;exact qq134):p:=h
theorem nn482(h:p:=by
 go_region_held3 (fun w'=>w'.cell? ⟨T3,2,none⟩=some (vS tt)) (go_keep) (fail)
 have q6:(((x5.setCell ⟨T3+1,0,none⟩ (vI 7)).setCell ⟨T3+1,2,none⟩ (vS tt)).drew).heap[T3+1]?=some (.cells #[vI 7,vI ta,vS tt,vI 0,vE,vZ,vZ] 123 (0,0)):=Cl (Cl q4 0 (vI 7)) 2 (vS tt);have fs:Fr [T3+1] x5 (((x5.setCell ⟨T3+1,0,none⟩ (vI 7)).setCell ⟨T3+1,2,none⟩ (vS tt)).drew):=(((Fr.refl [T3+1] x5).setCell (p:=⟨T3+1,0,none⟩) (.inl sM) _).setCell (p:=⟨T3+1,2,none⟩) (.inl sM) _).drew;have kqq134:=@Hz _ @nn335;exact qq134):p:=h
theorem nn483(h:p:=by
 go_region_held3 (fun w'=>w'.cell? ⟨T3,2,none⟩=some (vS tt)) (go_keep) (fail)
 have q6:(((x5.setCell ⟨T3+1,0,none⟩ (vI 2)).setCell ⟨T3+1,2,none⟩ (vS tt)).drew).heap[T3+1]?=some (.cells #[vI 2,vI ta,vS tt,vI 0,vE,vZ,vZ] 123 (0,0)):=Cl (Cl q4 0 (vI 2)) 2 (vS tt);have fs:Fr [T3+1] x5 (((x5.setCell ⟨T3+1,0,none⟩ (vI 2)).setCell ⟨T3+1,2,none⟩ (vS tt)).drew):=(((Fr.refl [T3+1] x5).setCell (p:=⟨T3+1,0,none⟩) (.inl sM) _).setCell (p:=⟨T3+1,2,none⟩) (.inl sM) _).drew;have kqq134:=@Hz _ @nn336;exact qq134):p:=h
theorem nn534(h:p:=by
 generalize ((((((x7.setCell ⟨B,0,none⟩ (vI 1)).setCell ⟨B,1,none⟩ (vI ta)).setCell ⟨B,2,none⟩ (vE)).setCell ⟨B,3,none⟩ (vI 0)).setCell ⟨B,4,none⟩ (vE)).setCell ⟨B,5,none⟩ (vZ)).setCell ⟨B,6,none⟩ (vZ)=Z at HG HF HP ⊢;obtain⟨⟨d0,d1,d2,d3,d4,d5,d6⟩,_⟩:=Ao HG.out;refine bodyPost_ret (v:=.agg #[vI 1,vI ta,vE,vI 0,vE,vZ,vZ]) ?_ rfl ?_
 ·exact qq152
 ·exact⟨_,_,_,_,_,_,_,_,_,_,_,_,_,_,rfl,Bw.leaf _ _ 1 ta [] 0 [],.look HT2.out (by rw[if_neg (by rw[HOK.out];decide)];simp;exact .adv .retP),HP.out,HF.out⟩):p:=h
theorem nn535(h:p:=by
 generalize ((((((x7.setCell ⟨B,0,none⟩ (vI 2)).setCell ⟨B,1,none⟩ (vI ta)).setCell ⟨B,2,none⟩ (vS tt)).setCell ⟨B,3,none⟩ (vI 0)).setCell ⟨B,4,none⟩ (vE)).setCell ⟨B,5,none⟩ (vZ)).setCell ⟨B,6,none⟩ (vZ)=Z at HG HF HP ⊢;obtain⟨⟨d0,d1,d2,d3,d4,d5,d6⟩,_⟩:=Ao HG.out;refine bodyPost_ret (v:=.agg #[vI 2,vI ta,vS tt,vI 0,vE,vZ,vZ]) ?_ rfl ?_
 ·exact qq152
 ·exact⟨_,_,_,_,_,_,_,_,_,_,_,_,_,_,rfl,Bw.leaf _ _ 2 ta tt 0 [],.look HT2.out (by rw[if_neg (by rw[HOK.out];decide)];simp[D0.out];exact .adv .retP),HP.out,HF.out⟩):p:=h
theorem nn536(h:p:=by
 generalize ((((((x7.setCell ⟨B,0,none⟩ (vI 7)).setCell ⟨B,1,none⟩ (vI ta)).setCell ⟨B,2,none⟩ (vS tt)).setCell ⟨B,3,none⟩ (vI 0)).setCell ⟨B,4,none⟩ (vE)).setCell ⟨B,5,none⟩ (vZ)).setCell ⟨B,6,none⟩ (vZ)=Z at HG HF HP ⊢;obtain⟨⟨d0,d1,d2,d3,d4,d5,d6⟩,_⟩:=Ao HG.out;refine bodyPost_ret (v:=.agg #[vI 7,vI ta,vS tt,vI 0,vE,vZ,vZ]) ?_ rfl ?_
 ·exact qq152
 ·exact⟨_,_,_,_,_,_,_,_,_,_,_,_,_,_,rfl,Bw.leaf _ _ 7 ta tt 0 [],.look HT2.out (by rw[if_neg (by rw[HOK.out];decide)];simp;exact .adv .retP),HP.out,HF.out⟩):p:=h
theorem nn537(h:p:=by
 generalize ((((((x7.setCell ⟨B,0,none⟩ (vI 3)).setCell ⟨B,1,none⟩ (vI ta)).setCell ⟨B,2,none⟩ (vE)).setCell ⟨B,3,none⟩ (vI tn)).setCell ⟨B,4,none⟩ (vE)).setCell ⟨B,5,none⟩ (vZ)).setCell ⟨B,6,none⟩ (vZ)=Z at HG HF HP ⊢;obtain⟨⟨d0,d1,d2,d3,d4,d5,d6⟩,_⟩:=Ao HG.out;refine bodyPost_ret (v:=.agg #[vI 3,vI ta,vE,vI tn,vE,vZ,vZ]) ?_ rfl ?_
 ·exact qq152
 ·exact⟨_,_,_,_,_,_,_,_,_,_,_,_,_,_,rfl,Bw.leaf _ _ 3 ta [] tn [],.look HT2.out (by rw[if_neg (by rw[HOK.out];decide)];simp;exact .adv .retP),HP.out,HF.out⟩):p:=h
theorem nn538(h:p:=by
 generalize ((((((x7.setCell ⟨B,0,none⟩ (vI 4)).setCell ⟨B,1,none⟩ (vI ta)).setCell ⟨B,2,none⟩ (vE)).setCell ⟨B,3,none⟩ (vI 0)).setCell ⟨B,4,none⟩ (vS tt)).setCell ⟨B,5,none⟩ (vZ)).setCell ⟨B,6,none⟩ (vZ)=Z at HG HF HP ⊢;obtain⟨⟨d0,d1,d2,d3,d4,d5,d6⟩,_⟩:=Ao HG.out;refine bodyPost_ret (v:=.agg #[vI 4,vI ta,vE,vI 0,vS tt,vZ,vZ]) ?_ rfl ?_
 ·exact qq152
 ·exact⟨_,_,_,_,_,_,_,_,_,_,_,_,_,_,rfl,Bw.leaf _ _ 4 ta [] 0 tt,.look HT2.out (by rw[if_neg (by rw[HOK.out];decide)];simp;exact .adv .retP),HP.out,HF.out⟩):p:=h
theorem nn597(h:p:=by
 have hBT:=Aa g0;have HG:=Hz (Dm g0 (vI k2) (vI a2) (vS nm2) (vI n2) (vS s2) (.slice A52 n52 c52) (.slice A62 n62 c62));have HF:=Hz (((F5.mono (L':=[P]) (fun x hx=>by cases hx)).trans f6).step (Ce x6 B (vI k2) (vI a2) (vS nm2) (vI n2) (vS s2) (.slice A52 n52 c52) (.slice A62 n62 c62)) (fun x hx => .inr (by simp at hx;omega)));have kqq43:=@Hz _ @nn140;exact qq43):p:=h
theorem nn648(h:p:=by
 go_enter func138,ntmps138;have f0:Fr [] w (w.alloc (.cells #[vI 0,vI 0,vE,vI 0,vE,vZ,vZ] 123)):=(Fr.refl [] w).alloc _;have h0:=H.out.fr f0;obtain⟨p0,p1,p2,_⟩:=Fp H.out.blk;have g0:=Ag w (.cells #[vI 0,vI 0,vE,vI 0,vE,vZ,vZ] 123);obtain⟨t,ht⟩:=Bn hin
 cases hok:st.ok with
 | false =>
  rw[hok] at p2;have HOK:=Hz hok;clear hok;go_wp2_with fail;obtain⟨⟨d0,d1,d2,d3,d4,d5,d6⟩,_⟩:=Ao g0;refine bodyPost_ret (v:=.agg #[vI 0,vI 0,vE,vI 0,vE,vZ,vZ]) ?_ rfl ?_
  ·exact qq152
  ·exact⟨_,_,_,_,_,_,_,_,_,_,_,_,_,_,rfl,Bw.leaf _ _ 0 0 [] 0 [],.look ht (by rw[if_pos HOK.out];exact .retP),h0,f0.mono (fun x hx=>by cases hx)⟩
 | true =>
  rw[hok] at p2;go_wp2_with fail;clear p0 p1 p2
  generalize w.alloc (.cells #[vI 0,vI 0,vE,vI 0,vE,vZ,vZ] 123)=w1 at *
  generalize hB:w.heap.size=B at *
  have hB1:=Aa g0;have nP:¬ P=B:=by omega
  have nB:¬ B=P:=by omega
  have ng:¬ g=B:=by omega
  refine(Cr P g c ts st t ht w1 h0 HE.out).mono ?_;rintro e x3 ⟨rfl,f3⟩;have g0:=f3.keep g0 nE;have h3:=h0.fr f3;have F3:=f0.trans f3;clear h0 f0 f3;have HT:=Hz ht;clear ht
  cases t with
  | mk tk ta tt tn =>
  simp only at *
  by_cases e0:tk=1
  ·subst e0;go_wp2_with fail;have q3:=Ae (Ag x3 (.cells #[vI 1,vI ta,vS tt,vI tn] 52)) (.cells #[vI 0,vI ta,vE,vI 0,vE,vZ,vZ] 123);have q4:=Ag (x3.alloc (.cells #[vI 1,vI ta,vS tt,vI tn] 52)) (.cells #[vI 0,vI ta,vE,vI 0,vE,vZ,vZ] 123);have hsz:(x3.alloc (.cells #[vI 1,vI ta,vS tt,vI tn] 52)).heap.size=x3.heap.size+1:=by simp
   rw[hsz] at q4;clear hsz;have fbb:Fr [] x3 ((x3.alloc (.cells #[vI 1,vI ta,vS tt,vI tn] 52)).alloc (.cells #[vI 0,vI ta,vE,vI 0,vE,vZ,vZ] 123)):=((Fr.refl [] x3).alloc _).alloc _;have kqq344:=@Hz _ @nn658;exact qq344
  by_cases e1:tk=2
  ·subst e1;go_wp2_with fail;have q3:=Ae (Ag x3 (.cells #[vI 2,vI ta,vS tt,vI tn] 52)) (.cells #[vI 0,vI ta,vE,vI 0,vE,vZ,vZ] 123);have q4:=Ag (x3.alloc (.cells #[vI 2,vI ta,vS tt,vI tn] 52)) (.cells #[vI 0,vI ta,vE,vI 0,vE,vZ,vZ] 123);have hsz:(x3.alloc (.cells #[vI 2,vI ta,vS tt,vI tn] 52)).heap.size=x3.heap.size+1:=by simp
   rw[hsz] at q4;clear hsz;have fbb:Fr [] x3 ((x3.alloc (.cells #[vI 2,vI ta,vS tt,vI tn] 52)).alloc (.cells #[vI 0,vI ta,vE,vI 0,vE,vZ,vZ] 123)):=((Fr.refl [] x3).alloc _).alloc _;have kqq344:=@Hz _ @nn657;exact qq344
  by_cases e2:tk=4
  ·subst e2;go_wp2_with fail;have q3:=Ae (Ag x3 (.cells #[vI 4,vI ta,vS tt,vI tn] 52)) (.cells #[vI 0,vI ta,vE,vI 0,vE,vZ,vZ] 123);have q4:=Ag (x3.alloc (.cells #[vI 4,vI ta,vS tt,vI tn] 52)) (.cells #[vI 0,vI ta,vE,vI 0,vE,vZ,vZ] 123);have hsz:(x3.alloc (.cells #[vI 4,vI ta,vS tt,vI tn] 52)).heap.size=x3.heap.size+1:=by simp
   rw[hsz] at q4;clear hsz;have fbb:Fr [] x3 ((x3.alloc (.cells #[vI 4,vI ta,vS tt,vI tn] 52)).alloc (.cells #[vI 0,vI ta,vE,vI 0,vE,vZ,vZ] 123)):=((Fr.refl [] x3).alloc _).alloc _;have kqq344:=@Hz _ @nn656;exact qq344
  by_cases e3:tk=5
  ·subst e3;go_wp2_with fail;have q3:=Ae (Ag x3 (.cells #[vI 5,vI ta,vS tt,vI tn] 52)) (.cells #[vI 0,vI ta,vE,vI 0,vE,vZ,vZ] 123);have q4:=Ag (x3.alloc (.cells #[vI 5,vI ta,vS tt,vI tn] 52)) (.cells #[vI 0,vI ta,vE,vI 0,vE,vZ,vZ] 123);have hsz:(x3.alloc (.cells #[vI 5,vI ta,vS tt,vI tn] 52)).heap.size=x3.heap.size+1:=by simp
   rw[hsz] at q4;clear hsz;have fbb:Fr [] x3 ((x3.alloc (.cells #[vI 5,vI ta,vS tt,vI tn] 52)).alloc (.cells #[vI 0,vI ta,vE,vI 0,vE,vZ,vZ] 123)):=((Fr.refl [] x3).alloc _).alloc _;have kqq344:=@Hz _ @nn655;exact qq344
  have b0:(tk==1)=false:=bN.2 e0;have b1:(tk==2)=false:=bN.2 e1;have b2:(tk==4)=false:=bN.2 e2;have b3:(tk==5)=false:=bN.2 e3;have HOK:=Hz hok;have HE4:=Hz (And.intro e0 (And.intro e1 (And.intro e2 e3)));clear e0 e1 e2 e3 hok;go_wp2_with fail;have q3:=Ae (Ag x3 (.cells #[vI tk,vI ta,vS tt,vI tn] 52)) (.cells #[vI 0,vI ta,vE,vI 0,vE,vZ,vZ] 123);have q4:=Ag (x3.alloc (.cells #[vI tk,vI ta,vS tt,vI tn] 52)) (.cells #[vI 0,vI ta,vE,vI 0,vE,vZ,vZ] 123);have hsz:(x3.alloc (.cells #[vI tk,vI ta,vS tt,vI tn] 52)).heap.size=x3.heap.size+1:=by simp
  rw[hsz] at q4;clear hsz;have fbb:Fr [] x3 ((x3.alloc (.cells #[vI tk,vI ta,vS tt,vI tn] 52)).alloc (.cells #[vI 0,vI ta,vE,vI 0,vE,vZ,vZ] 123)):=((Fr.refl [] x3).alloc _).alloc _;have kqq344:=@Hz _ @nn654;exact qq344):p:=h
theorem nn654(h:p:=by
 generalize (x3.alloc (.cells #[vI tk,vI ta,vS tt,vI tn] 52)).alloc (.cells #[vI 0,vI ta,vE,vI 0,vE,vZ,vZ] 123)=x5 at *
 have kqq245:=@Hz _ @nn479;exact qq245):p:=h
theorem nn655(h:p:=by
 generalize (x3.alloc (.cells #[vI 5,vI ta,vS tt,vI tn] 52)).alloc (.cells #[vI 0,vI ta,vE,vI 0,vE,vZ,vZ] 123)=x5 at *
 have kqq245:=@Hz _ @nn480;exact qq245):p:=h
theorem nn656(h:p:=by
 generalize (x3.alloc (.cells #[vI 4,vI ta,vS tt,vI tn] 52)).alloc (.cells #[vI 0,vI ta,vE,vI 0,vE,vZ,vZ] 123)=x5 at *
 have kqq245:=@Hz _ @nn481;exact qq245):p:=h
theorem nn657(h:p:=by
 generalize (x3.alloc (.cells #[vI 2,vI ta,vS tt,vI tn] 52)).alloc (.cells #[vI 0,vI ta,vE,vI 0,vE,vZ,vZ] 123)=x5 at *
 have kqq245:=@Hz _ @nn482;exact qq245):p:=h
theorem nn658(h:p:=by
 generalize (x3.alloc (.cells #[vI 1,vI ta,vS tt,vI tn] 52)).alloc (.cells #[vI 0,vI ta,vE,vI 0,vE,vZ,vZ] 123)=x5 at *
 have kqq245:=@Hz _ @nn483;exact qq245):p:=h
theorem patom_step(ts:List Tok)(hE:Cx ts)(N:Nat)(ihM:GM ts N):GP ts (N+1) 1 .patom 138:=by
 intro P g c st w h hm;have IHM:=Hz ihM;clear ihM;have kqq340:=@Hz _ @nn648;exact qq340
end
end Go.Proofs.YtlafbbnikgcdlaaGreatDoor
