/- A part of the proof: Ph, Pl, Pn1, Pn, Pg, It1, It2, It3. -/
import Derived.Deep.DrawnRows
import Derived.Test.YtlafbbnikgcdlaaGreatDoorKb10
import Derived.Test.YtlafbbnikgcdlaaGreatDoorKb11
namespace Go.Proofs.YtlafbbnikgcdlaaGreatDoor
open Go.RowKit
open _root_.Go.Proofs.Tryz
set_option linter.all false
set_option maxHeartbeats 16000000
set_option maxRecDepth 100000
variable{p:Prop}
open Nat renaming lt_of_lt_of_le→Nl',le_refl→Nr'
section
attribute [local go_sem ↓] Go.wp_at_zero Go.wp_at_succ
theorem I2:(prog.info? 27).map (fun i=>(i.zero,i.size,i.bytes))=some (some (.agg #[vI 0,vI 0,vE,vI 0,vE,vZ,vZ,vZ]),8,128):=by kernel_rfl
theorem nn67(h:p:=by
 have kqq52:=@Hz _ @nn153;exact qq52):p:=h
theorem nn153(h:p:=by
 have HT:=Hz ht
 ·have hok:=HOK.out;have hk:=HK.out;rw[hok] at p2;have hk0:t.k≠0:=by have:=beq_iff_eq.1 hk;omega
  have cx:=fun w h=>Hz (Et P g c ts st t ht hok hk0 w h HE.out)
  clear hok hk0;go_wp2_with fail;clear p0 p1 p2 hk;have kqq108:=@Hz _ @nn292;exact qq108):p:=h
theorem nn187(h:p:=by
 go_enter func190,ntmps190;have kqq18:=@Hz _ @nn67;exact qq18):p:=h
theorem nn292(h:p:=by
 have kqq356:=@Hz _ @nn695;exact qq356):p:=h
theorem nn440(h:p:=by
 have hxx:=Ak.of_rows (k:=15) (a:=t.at') (nm:=t.text) (n:=0) (s:=[]) (c5:=fun _=>[]) (c7:=fun _=>[]) An.nil_ row An.nil_;refine bodyPost_ret (v:=.agg #[vI 15,vI t.at',.string ⟨t.text.toArray⟩,vI 0,vE,vZ,.slice (some ⟨x6.heap.size,0,none⟩) 1 1,vZ]) ?_ rfl ?_
 ·exact qq287
 ·exact⟨_,_,_,_,_,_,_,_,_,_,_,_,_,_,_,_,_,_,rfl,by rw[hB];exact hxx,.look HT.out (by rw[HOK.out,HK.out];exact .adv (.callE hr2 .retE)),HP.out.fr ((Fr.refl [] Z).alloc _),HF.out.alloc _⟩):p:=h
theorem nn599(h:p:=by
 have HG:=Hz (Aq G6 (vI 15) (vI t.at') (.string ⟨t.text.toArray⟩) (vI 0) (vE) (vZ) (.slice (some ⟨x6.heap.size,0,none⟩) 1 1) (vZ));have HF:=Hz ((F5.trans f6).step (Aj x6 B (vI 15) (vI t.at') (.string ⟨t.text.toArray⟩) (vI 0) (vE) (vZ) (.slice (some ⟨x6.heap.size,0,none⟩) 1 1) (vZ)) (fun x hx => .inr (by simp at hx;omega)));have HP:=Hz ((hst2).frL (Aj x6 B (vI 15) (vI t.at') (.string ⟨t.text.toArray⟩) (vI 0) (vE) (vZ) (.slice (some ⟨x6.heap.size,0,none⟩) 1 1) (vZ)) (by simpa using nP) (by simpa using ng));have HS:=Hz (E0 x6 B (vI 15) (vI t.at') (.string ⟨t.text.toArray⟩) (vI 0) (vE) (vZ) (.slice (some ⟨x6.heap.size,0,none⟩) 1 1) (vZ));have HX2:Hid (Ak (st8 x6 B (vI 15) (vI t.at') (.string ⟨t.text.toArray⟩) (vI 0) (vE) (vZ) (.slice (some ⟨x6.heap.size,0,none⟩) 1 1) (vZ)) (fun b=>B≤b) (.mk k2 a2 nm2 n2 s2 ls2 args2 arms2) [vI k2,vI a2,vS nm2,vI n2,vS s2,.slice A52 n52 c52,.slice A62 n62 c62,.slice A72 n72 c72]):=Hz ((hx2).keep (Sh.of_fr (Aj x6 B (vI 15) (vI t.at') (.string ⟨t.text.toArray⟩) (vI 0) (vE) (vZ) (.slice (some ⟨x6.heap.size,0,none⟩) 1 1) (vZ)) (fun b hb hlt=>⟨oM,by simp;omega⟩)));unfold st8 at HG HF HP HS HX2;go_wp2_with fail;generalize (((((((x6.setCell ⟨B,0,none⟩ (vI 15)).setCell ⟨B,1,none⟩ (vI t.at')).setCell ⟨B,2,none⟩ (.string ⟨t.text.toArray⟩)).setCell ⟨B,3,none⟩ (vI 0)).setCell ⟨B,4,none⟩ (vE)).setCell ⟨B,5,none⟩ (vZ)).setCell ⟨B,6,none⟩ (.slice (some ⟨x6.heap.size,0,none⟩) 1 1)).setCell ⟨B,7,none⟩ (vZ)=Z at HG HF HP HS HX2 ⊢;have kqq232:=@Hz _ @nn440;exact qq232):p:=h
theorem nn695(h:p:=by
 clear cx ht;go_wp2_with fail
 go_region_held3 (fun w'=>w'.cell? ⟨T3,1,none⟩=some (vI t.at')∧w'.cell? ⟨T3,2,none⟩=some (.string ⟨t.text.toArray⟩)) (first|go_keep|exact⟨M6.2.1,M6.2.2.1⟩) (((with_reducible refine(cS _ (h5.fr (Fr.refl [] x5).drew)).out.mono ?_);rintro e x6 ⟨k2,a2,nm2,n2,s2,ls2,args2,arms2,A52,n52,c52,A62,n62,c62,A72,n72,c72,st2,rfl,hx2,hr2,hst2,f6⟩;have Q6:=f6.keep (w:=x5.drew) q3 sO;have hT6:=Aa Q6;have M6:=Ar Q6;have G6:=f6.keep (w:=x5.drew) g0 (by simpa using nB);have hB6:=Aa G6;obtain⟨⟨u0,u1,u2,u3,u4,u5,u6,u7⟩,z0,z1,z2,z3,z4,z5,z6,z7⟩:=Ac G6))
 clear m0 m1 m2 m3 M6 u0 u1 u2 u3 u4 u5 u6 u7 z0 z1 z2 z3 z4 z5 z6 z7;have f6:Fr [P] x5 x6:=((Fr.refl [P] x5).drew).trans f6;have kqq323:=@Hz _ @nn599;exact qq323):p:=h
theorem app_tag(ts:List Tok)(hE:Cx ts)(N:Nat)(ih:Hi ts N)(P g c:Nat)(st:St)(w:World)(h:PSt P g c ts st w)(hm:16 *(ts.length-st.i)+5<N+1)(t:Tok)(ht:ts[st.i]?=some t)(hok:st.ok=true)(hk:(t.k==3)=true):Calls prog 190 #[.pointer (some ⟨P,0,none⟩)] w (Kw P g c ts st (body .app) w):=by
 have HOK:=Hz hok;have HK:=Hz hk;clear hok hk;have kqq68:=@Hz _ @nn187;exact qq68
theorem nn66(h:p:=by
 have kqq52:=@Hz _ @nn154;exact qq52):p:=h
theorem nn154(h:p:=by
 have HT:=Hz ht;have hok:=HOK.out;have hk:=HK.out;have hk3:=HK3.out;rw[hok] at p2;have hk0:t.k≠0:=by have:=beq_iff_eq.1 hk;omega
 have cx:=fun w h=>Hz (Et P g c ts st t ht hok hk0 w h HE.out)
 clear hok hk0 ht;go_wp2_with fail;refine(cc _).out.mono ?_;rintro e y4 ⟨rfl,rfl⟩;have hcn:=HC.out;go_wp2_with fail;clear p0 p1 p2 hk hk3;have kqq108:=@Hz _ @nn291;exact qq108):p:=h
theorem nn186(h:p:=by
 go_enter func190,ntmps190;have kqq18:=@Hz _ @nn66;exact qq18):p:=h
theorem nn291(h:p:=by
 obtain⟨m0,m1,m2,m3,_⟩:=Ar q3;clear cx f4 f0 f3 f5;go_wp2_with fail;refine(Mi _ t _ _ _ _).mono ?_;rintro e x6 ⟨rfl,f6⟩;go_wp2_with fail;have hTT:=Aa (f6.keep g0 nE);have hP6:=Aa ((h5.fr f6).blk);have q6:=Ag x6 (.cells #[vI 19,vI t.at',vE,vI cn,vE,vZ,vZ,vZ] 27);have fb6:Fr [] x6 (x6.alloc (.cells #[vI 19,vI t.at',vE,vI cn,vE,vZ,vZ,vZ] 27)):=(Fr.refl [] x6).alloc _;have g0:=(f6.trans fb6).keep g0 nE;have h7:=h5.fr (f6.trans fb6);have F7:=F5.trans0 (f6.trans fb6)
 generalize x6.alloc (.cells #[vI 19,vI t.at',vE,vI cn,vE,vZ,vZ,vZ] 27)=x7 at *
 have hT6:=Aa q6
 generalize x6.heap.size=T6 at *
 obtain⟨i0,hi,hz0,hz1,hz2⟩:=info_parts I2;have HI:=Hz hi;have HZ0:=Hz hz0;have HZ1:=Hz hz1;have HZ2:=Hz hz2;have HR0:Hid (∀ x st',Run ts (body (.opL cn t.at' cm [])) ⟨st.i+1,st.ok⟩ (.e x) st'→Run ts (body .app) st (.e x) st'):=Hz (fun x st' h => .look HT.out (by rw[HOK.out,HK3.out,HK.out,HCALL.out];simp[HC.out];exact .adv (.callE h .retE)));clear m0 m1 m2 m3 hi hz0 hz1 hz2 fb6 f6 q3 cc
 go_loopw [54] (fun iv wr=>∃ (j:Nat) (acc:List Ad) (v6:Value) (c6:Nat→List Value) (st0:St),iv=vI j∧j≤cm∧acc.length=j∧Fr [P] w wr∧wr.heap[B]?=some (.cells #[vI 0,vI 0,vE,vI 0,vE,vZ,vZ,vZ] 27 (0,0))∧T6<wr.heap.size∧wr.heap[T6]?=some (.cells #[vI 19,vI t.at',vE,vI cn,vE,vZ,v6,vZ] 27 (0,0))∧Wc wr (fun b=>B<b∧¬ b=T6∧¬ b=P) v6 acc c6∧PSt P g c ts st0 wr∧st.i+1≤st0.i∧Hid (∀ x st',Run ts (body (.opL cn t.at' (cm-j) acc)) st0 (.e x) st'→Run ts (body .app) st (.e x) st')) (fun iv wr=>cm-(intOf iv).toNat)
 case atStart=>exact⟨0,[],vZ,fun _=>[],_,rfl,oM,rfl,F7,g0,hT6,q6,An.nil_,h7,sM,HR0⟩
 case round =>
  obtain⟨j,acc,v6,c6,st0,rfl,hj,hlen,F,g0,hT,q0,hrow,h0,hle0,HR⟩:=hrel;clear q6 h7 F7 hT6 HR0 F5 h5 h4 hs5;have hcm:=HCM.out;have HL:=Hz hlen;by_cases hlt:j<cm
  ·have cS:=fun W hW=>Hz (IH.out.post P g c st0 W hW (by have:=HN.out;have:=h0.inb;omega))
   obtain⟨⟨l0,l1,l2,l3,l4,l5,l6,l7⟩,_⟩:=Ac q0;have HROW:=Hz hrow;have HH0:=Hz h0;have nTP:¬ T6=P:=by omega
   have nBT:B<T6:=by omega
   clear hrow hlen;go_wp2_with fail;refine Bo (fun w'=>w'.cell? ⟨T6,6,none⟩=some v6) kR kR ?hS0 (fun K hK hHeld=>?hr0)
   case hS0=>go_keep
   have kqq330:=@Hz _ @nn617;exact qq330
  ·have ej:j=cm:=by omega
   subst ej
   have hform:∃ A6 n6 cc6,v6 = .slice A6 n6 cc6:=by
    rcases hrow.own.2 with⟨hv,_⟩| ⟨g',cap,cur,hv,_⟩
    ·exact qq286
    ·exact qq286
   obtain⟨A6,n6,cc6,rfl⟩:=hform;have hBT:=Aa g0;have row0:=An.keep (ok':=fun b=>B<b) As hrow (Sh.of_fr (Fr.refl [] wr) (fun b hb hlt=>⟨hb.1,fun x=>by cases x⟩));obtain⟨⟨l0,l1,l2,l3,l4,l5,l6,l7⟩,_⟩:=Ac q0;obtain⟨⟨u0,u1,u2,u3,u4,u5,u6,u7⟩,z0,z1,z2,z3,z4,z5,z6,z7⟩:=Ac g0;have HRN:=HR;clear hlen HR;have HG:=Hz (Aq g0 (vI 19) (vI t.at') (vE) (vI cn) (vE) (vZ) (.slice A6 n6 cc6) (vZ));have HF:=Hz ((F).step (Aj wr B (vI 19) (vI t.at') (vE) (vI cn) (vE) (vZ) (.slice A6 n6 cc6) (vZ)) (fun x hx => .inr (by simp at hx;omega)));have HP:=Hz ((h0).frL (Aj wr B (vI 19) (vI t.at') (vE) (vI cn) (vE) (vZ) (.slice A6 n6 cc6) (vZ)) (by simpa using nP) (by simpa using ng));have HR:=Hz (An.keep (ok':=fun b=>B≤b) As row0 (Sh.of_fr (Aj wr B (vI 19) (vI t.at') (vE) (vI cn) (vE) (vZ) (.slice A6 n6 cc6) (vZ)) (fun b hb hlt=>⟨oM,by simp;omega⟩)));unfold st8 at HG HF HP HR;go_wp2_with fail;generalize (((((((wr.setCell ⟨B,0,none⟩ (vI 19)).setCell ⟨B,1,none⟩ (vI t.at')).setCell ⟨B,2,none⟩ (vE)).setCell ⟨B,3,none⟩ (vI cn)).setCell ⟨B,4,none⟩ (vE)).setCell ⟨B,5,none⟩ (vZ)).setCell ⟨B,6,none⟩ (.slice A6 n6 cc6)).setCell ⟨B,7,none⟩ (vZ)=Z at HG HF HP HR ⊢;obtain⟨⟨d0,d1,d2,d3,d4,d5,d6,d7⟩,_⟩:=Ac HG.out;have hxx:=Ak.of_rows (k:=19) (a:=t.at') (nm:=[]) (n:=cn) (s:=[]) (c5:=fun _=>[]) (c7:=fun _=>[]) An.nil_ HR.out An.nil_;refine bodyPost_ret (v:=.agg #[vI 19,vI t.at',vE,vI cn,vE,vZ,.slice A6 n6 cc6,vZ]) ?_ rfl ?_
   ·exact qq287
   ·exact⟨_,_,_,_,_,_,_,_,_,_,_,_,_,_,_,_,_,_,rfl,by rw[hB];exact hxx,HRN.out _ _ (by rw[Nat.sub_self];exact .retE),HP.out,HF.out⟩):p:=h
theorem nn617(h:p:=by
 refine Af (i:=2) (v:=?v3) rfl kR kR kR (fun _ _ _ h=>h) (Or.inl ⟨by rfl,?hy3⟩) aS ?hr3
 case hy3 =>
  exact qq9
 (try simp only[Act.put,sX])
 refine Am (i:=3) rfl kR (fun K3 hK3=>?hr4);go_simp;refine(cS _ (HH0.out.fr (Fr.refl [] wr).drew)).out.mono ?_;rintro e x8 ⟨k2,a2,nm2,n2,s2,ls2,args2,arms2,A52,n52,c52,A62,n62,c62,A72,n72,c72,st2,rfl,hx2,hr2,hst2,f8⟩;have Q8:=f8.keep (w:=wr.drew) q0 (by simpa using nTP);have hT8:=Aa Q8;obtain⟨⟨u0,u1,u2,u3,u4,u5,u6,u7⟩,z0,z1,z2,z3,z4,z5,z6,z7⟩:=Ac Q8;have ROW9:=An.keep (w':=x8.alloc (.cells #[vI k2,vI a2,vS nm2,vI n2,vS s2,.slice A52 n52 c52,.slice A62 n62 c62,.slice A72 n72 c72] 27)) (ok':=fun b=>B<b∧¬ b=T6∧¬ b=P) As HROW.out (Sh.of_fr (((Fr.refl [P] wr).drew.trans f8).alloc _) (fun b hb hlt=>⟨hb,by simpa using hb.2.2⟩));go_simp;refine hK3.out _ _ ?hS4 (fun hHeld=>?hq4)
 case hS4=>exact u6
 clear hK3 K3
 (try simp only[Act.put,sX])
 refine Am (i:=4) rfl kR (fun K4 hK4=>?hr5);go_simp;refine hK4.out _ _ ?hS5 (fun hHeld=>?hq5)
 case hS5=>exact Ab (Ae Q8 _) 6
 clear hK4 K4
 (try simp only[Act.put,sX])
 refine Am (i:=5) rfl kR (fun K5 hK5=>?hr6);refine Av rF _ _ 24 rF 27 i0 _ 8 128 underlying24 HI.out HZ0.out HZ1.out HZ2.out rfl dC v6 acc.length (Co c6 acc.length) rF ROW9.own ⟨x8.heap.size,0,none⟩ 1 1 [vI k2,vI a2,vS nm2,vI n2,vS s2,.slice A52 n52 c52,.slice A62 n62 c62,.slice A72 n72 c72] rF rfl (World.news_of_block (Ag x8 _)) (by simp[Value.oneCell']) (by simp only[maxLen];have:=HL.out;have:=HCM.out;omega) (by have:=HL.out;have:=HCM.out;omega) ?_;intro v9 w9 hown9 hgrow9 hfp9;obtain⟨g9,cp9,rfl⟩:=Cd hown9;have Q9:=(hgrow9.block T6 (Aa (Ae Q8 (.cells #[vI k2,vI a2,vS nm2,vI n2,vS s2,.slice A52 n52 c52,.slice A62 n62 c62,.slice A72 n72 c72] 27))) (fun e=>(HROW.out.blk T6 e.symm).2.1 rfl)).trans (Ae Q8 (.cells #[vI k2,vI a2,vS nm2,vI n2,vS s2,.slice A52 n52 c52,.slice A62 n62 c62,.slice A72 n72 c72] 27));have hT9:=Aa Q9;clear u0 u1 u2 u3 u4 u5 u6 u7 z0 z1 z2 z3 z4 z5 z6 z7;obtain⟨⟨u0,u1,u2,u3,u4,u5,u6,u7⟩,z0,z1,z2,z3,z4,z5,z6,z7⟩:=Ac Q9;refine hK5.out _ _ ?hS6 (fun hHeld=>?hq6)
 case hS6=>exact u6
 clear hK5 K5
 (try simp only[Act.put,sX])
 refine Af (i:=6) (v:=?v7) rfl kR kR kR (fun _ _ _ h=>h) (Or.inl ⟨by rfl,?hy7⟩) aS ?hr7
 case hy7 =>
  exact qq9
 (try simp only[Act.put,sX])
 refine wpAnyH_done kR ?hr8 _;refine Bi rfl ?hq8;go_simp;refine hK.out _ _ ?hs8;clear hK K
 all_goals
  clear u0 u1 u2 u3 u4 u5 u6 u7 z0 z1 z2 z3 z4 z5 z6 z7 l0 l1 l2 l3 l4 l5 l6 l7;have f8:Fr [P] wr x8:=((Fr.refl [P] wr).drew).trans f8;have hs8:=f8.size;have hBT:=Aa g0;have blk:=HROW.out.blk;have olt:∀ gg,v6.ownBlock=some gg→gg<wr.heap.size:=fun gg hg=>HROW.out.own_lt gg hg
  have hxa:=hx2.keep (w':=x8.alloc (.cells #[vI k2,vI a2,vS nm2,vI n2,vS s2,.slice A52 n52 c52,.slice A62 n62 c62,.slice A72 n72 c72] 27)) (ok':=fun b=>wr.heap.size≤b∧b<x8.heap.size) (Sh.of_fr ((Fr.refl [] x8).alloc _) (fun b hb hlt=>⟨⟨hb,hlt⟩,fun x=>by cases x⟩));have row9:=An.app As ROW9 hxa rfl (fun b hb hlt=>⟨⟨oM,oM,oM⟩,fun e=>by have:=olt b e;omega⟩) hown9 hgrow9 hfp9 (fun b hb=>by simp only[World.size_alloc] at hb;exact⟨oM,oM,oM⟩);have fg:Fr v6.ownBlock.toList (x8.alloc (.cells #[vI k2,vI a2,vS nm2,vI n2,vS s2,.slice A52 n52 c52,.slice A62 n62 c62,.slice A72 n72 c72] 27)) w9:=(Fr.refl _ _).append hgrow9 (fun gg hg => .inl (by simp[hg]));have fa:Fr [] x8 (x8.alloc (.cells #[vI k2,vI a2,vS nm2,vI n2,vS s2,.slice A52 n52 c52,.slice A62 n62 c62,.slice A72 n72 c72] 27)):=(Fr.refl [] x8).alloc _;have nb:∀ b,¬ (B<b∧¬ b=T6∧¬ b=P)→b ∉ v6.ownBlock.toList:=fun b hb hm=>hb (blk b (by simpa using hm))
  have g9':=fg.keep (fa.keep (f8.keep g0 (by simpa using nB)) nE) (nb B oM);have h9:=(hst2.fr fa).frL fg (nb P sM) (nb g oM);have F9:Fr [P] w w9:=((F.trans f8).trans0 fa).append hgrow9 (fun gg hg => .inr (by have:=(blk gg hg).1;omega));have fs:=(Fr.refl [T6] w9).setCell (p:=⟨T6,6,none⟩) (.inl sM) (.slice (some ⟨g9,0,none⟩) (acc.length+1) cp9);have Q10:(w9.setCell ⟨T6,6,none⟩ (.slice (some ⟨g9,0,none⟩) (acc.length+1) cp9)).heap[T6]?=some (.cells #[vI 19,vI t.at',vE,vI cn,vE,vZ,.slice (some ⟨g9,0,none⟩) (acc.length+1) cp9,vZ] 27 (0,0)):=Cl Q9 6 _;have g10:=fs.keep g9' sO;have h10:=h9.frL fs sO sO;have F10:=F9.step fs (fun x hx => .inr (by simp at hx;omega));have row10:=An.keep (ok':=fun b=>B<b∧¬ b=T6∧¬ b=P) As row9 (Sh.of_fr fs (fun b hb hlt=>⟨hb,by simp;exact hb.2.1⟩));have hT10:=Aa Q10;have hle2:=hr2.le;have HF:=Hz F10;have HRW:=Hz row10;have HP10:=Hz h10
  have HR10:Hid (∀ x st',Run ts (body (.opL cn t.at' (cm-(j+1)) (acc++[(.mk k2 a2 nm2 n2 s2 ls2 args2 arms2)]))) st2 (.e x) st'→Run ts (body .app) st (.e x) st'):=Hz (fun x st' h=>HR.out _ _ (by
   have e:cm-j=(cm-(j+1))+1:=by omega
   rw[e]
   exact .callE hr2 (.callE h .retE)))
  clear F10 row10 h10 h9 F9 row9 fg fa fs g9' ROW9 hown9 hgrow9 hfp9 hxa Q9 Q8 blk olt nb;go_wp2_with fail
  go_roundw
  case rel=>exact⟨j+1,acc++[(.mk k2 a2 nm2 n2 s2 ls2 args2 arms2)],_,_,st2,sM,oM,by simp;exact HL.out,HF.out,g10,hT10,Q10,HRW.out,HP10.out,oM,HR10⟩
  case measure=>simp[intOf];omega):p:=h
theorem app_op(ts:List Tok)(hE:Cx ts)(N:Nat)(ih:Hi ts N)(P g c:Nat)(st:St)(w:World)(h:PSt P g c ts st w)(hm:16 *(ts.length-st.i)+5<N+1)(t:Tok)(ht:ts[st.i]?=some t)(hok:st.ok=true)(hk:(t.k==6)=true)(hcn:0<(Bz t.text).1):Calls prog 190 #[.pointer (some ⟨P,0,none⟩)] w (Kw P g c ts st (body .app) w):=by
 have HOK:=Hz hok;have HK:=Hz hk;have HC:Hid (0<(Bz t.text).1):=Hz hcn;have hk3:(t.k==3)=false:=by rw[bN];have:=beq_iff_eq.1 hk;omega
 have HK3:=Hz hk3;have cc:=fun w=>Hz (Rj t.text w)
 have HCM:Hid ((Bz t.text).2≤3):=Hz (by unfold Bz;split <;>(try simp)<;>(repeat(split <;>(try simp))))
 generalize hcall:Bz t.text=cnm at *
 obtain⟨cn,cm⟩:=cnm;have HCALL:=Hz hcall
 simp only at *
 clear hok hk hk3 hcall;have kqq68:=@Hz _ @nn186;exact qq68
theorem nn53(h:p:=by
 refine bodyPost_ret (v:=.agg #[vI k0,vI a0,vS nm0,vI n0,vS s0,.slice A50 n50 c50,.slice A60 n60 c60,.slice A70 n70 c70]) ?_ rfl ?_
 ·exact qq287
 ·exact⟨_,_,_,_,_,_,_,_,_,_,_,_,_,_,_,_,_,_,rfl,by rw[hB];exact HX.out,HR.out _ _ (.look hu (by rw[hc,if_neg dC];exact .retE)),HP.out,HF.out⟩):p:=h
theorem nn65(h:p:=by
 have kqq52:=@Hz _ @nn155;exact qq52):p:=h
theorem nn106(h:p:=by
 generalize hTT1:x1.heap.size=T7 at *
 have g0:=fb1.keep g0 nE;have h2:=hst1.fr fb1;have F2:=F1.trans0 fb1;have hx1:=hx1.keep (ok':=fun b=>B<b∧¬ b=T7∧¬ b=P) (Sh.of_fr fb1 (fun b hb hlt=>⟨⟨oM,oM,oM⟩,fun x=>by cases x⟩));have HR0:Hid (∀ x st',Run ts (body (.appL (.mk k1 a1 nm1 n1 s1 ls1 args1 arms1))) st1 (.e x) st'→Run ts (body .app) st (.e x) st'):=Hz (fun x st' h=>HKEY.out _ _ x st' hr1 h);have hBT:B<T7:=by have:=Aa hGx;omega
 clear hst1 hr1 HKEY fb1 f1 F1 hs1 H hGx
 go_loopw [] (fun wr=>∃ (k0 a0:Int) (nm0:LB) (n0:Int) (s0:LB) (ls0:List LB) (args0:List Ad) (arms0:List (Al×Ad)) (A50:Option Addr) (n50 c50:Nat) (A60:Option Addr) (n60 c60:Nat) (A70:Option Addr) (n70 c70:Nat) (st0:St),Fr [P] w wr∧B<T7∧T7<wr.heap.size∧wr.heap[B]?=some (.cells #[vI 0,vI 0,vE,vI 0,vE,vZ,vZ,vZ] 27 (0,0))∧wr.heap[T7]?=some (.cells #[vI k0,vI a0,vS nm0,vI n0,vS s0,.slice A50 n50 c50,.slice A60 n60 c60,.slice A70 n70 c70] 27 (0,0))∧Ak wr (fun b=>B<b∧¬ b=T7∧¬ b=P) (.mk k0 a0 nm0 n0 s0 ls0 args0 arms0) [vI k0,vI a0,vS nm0,vI n0,vS s0,.slice A50 n50 c50,.slice A60 n60 c60,.slice A70 n70 c70]∧PSt P g c ts st0 wr∧st.i≤st0.i∧Hid (∀ x st',Run ts (body (.appL (.mk k0 a0 nm0 n0 s0 ls0 args0 arms0))) st0 (.e x) st'→Run ts (body .app) st (.e x) st')) (fun wr=>ts.length-plI wr P)
 case atStart=>exact⟨k1,a1,nm1,n1,s1,ls1,args1,arms1,A51,n51,c51,A61,n61,c61,A71,n71,c71,st1,F2,hBT,hT1,g0,q1,hx1,h2,hle,HR0⟩
 case round =>
  have kqq148:=@Hz _ @nn357;exact qq148):p:=h
theorem nn155(h:p:=by
 have HT:=Hz ht
 rcases HC.out with hok|⟨hok,⟨hk3,hk6⟩| ⟨hk3,hk6,hcn⟩⟩
 all_goals
  clear HC;clear ht;rw[hok] at p2;clear hok;go_wp2_with fail;refine(cc _).out.mono ?_;rintro e y4 ⟨rfl,rfl⟩;go_wp2_with fail;clear p0 p1 p2
  try clear hcn
  try clear hk3 hk6
  generalize x3.alloc (.cells #[vI t.k,vI t.at',.string ⟨t.text.toArray⟩,vI t.n] 52)=x4 at *
  generalize x3.heap.size=TT at *
  have hs5:=Aa g0;refine(IH.out.post P g c st x4 h4 (by have:=HN.out;omega)).mono ?_;have kqq144:=@Hz _ @nn345;exact qq144):p:=h
theorem nn185(h:p:=by
 go_enter func190,ntmps190;have kqq18:=@Hz _ @nn65;exact qq18):p:=h
theorem nn342(h:p:=by
 refine Af (i:=3) (v:=?_) rfl kR kR kR (fun _ _ _ h=>h) (Or.inl ⟨by rfl,?_⟩) aS ?_
 rotate_left
 ·exact qq9
 (try simp only[Act.put,sX])
 refine Am (i:=4) rfl kR (fun K4 hK4=>?_);go_simp;refine(cE _ (HH3.out.fr (Fr.refl [] y3).drew)).out.mono ?_;rintro e y4 ⟨k2,a2,nm2,n2,s2,ls2,args2,arms2,A52,n52,c52,A62,n62,c62,A72,n72,c72,st2,rfl,hx2,hr2,hst2,f4⟩;have Q4:=f4.keep (w:=y3.drew) q0 sO;have hT44:=Aa Q4;obtain⟨⟨u0,u1,u2,u3,u4,u5,u6,u7⟩,z0,z1,z2,z3,z4,z5,z6,z7⟩:=Ac Q4;go_simp;refine hK4.out _ _ ?_ (fun hHeld=>?_)
 ·exact(Ac Q4).1
 clear hK4 K4
 (try simp only[Act.put,sX])
 refine Am (i:=5) rfl kR (fun K5 hK5=>?_);go_simp;refine hK5.out _ _ ?_ (fun hHeld=>?_)
 ·exact(Ac (Ae Q4 _)).1
 have kqq335:=@Hz _ @nn629;exact qq335):p:=h
theorem nn345(h:p:=by
 have F1:Fr [P] w x1:=(f4.mono (fun x hx=>by cases hx)).trans f1;have hle:=hr1.le;clear q3 hT4 f4 h4 cc;go_wp2_with fail;have kqq33:=@Hz _ @nn106;exact qq33):p:=h
theorem nn357(h:p:=by
 have ci:=fun w h=>Hz (Rf P g c ts st0 u hu w h HE.out)
 cases hc:Di u st0.ok with
 | false =>
  rw[hc] at ci;go_wp2_with fail;refine(ci _ h0).out.mono ?_;rintro e y1 ⟨rfl,f1⟩;have kqq16:=@Hz _ @nn53
  exact qq16
 | true =>
  rw[hc] at ci;have HK0:=Hz (Rg hc);go_wp2_with fail;refine(ci _ h0).out.mono ?_;rintro e y3 ⟨rfl,f1⟩;go_wp2_with fail;have h3:=h0.fr f1;have g0:=f1.keep g0 nE;have q0:=f1.keep q0 nE;have F3:=F.trans0 f1;have hT7:=Aa q0;have hx0:=hx0.keep (ok':=fun b=>B<b∧¬ b=T7∧¬ b=P∧b<y3.heap.size) (Sh.of_fr f1 (fun b hb hlt=>⟨⟨hb.1,hb.2.1,hb.2.2,by have:=f1.size;omega⟩,fun x=>by cases x⟩));have cE:=fun W hW=>Hz (IH.out.post P g c st0 W hW (by have:=HN.out;have:=h3.inb;omega))
  obtain⟨⟨l0,l1,l2,l3,l4,l5,l6,l7⟩,_⟩:=Ac q0;clear f1 ci;have HH3:=Hz h3;have HX0:=Hz hx0;clear h3 hx0;refine Bo (fun w'=>(w'.cell? ⟨T7,0,none⟩=some (vI k0)∧w'.cell? ⟨T7,1,none⟩=some (vI a0)∧w'.cell? ⟨T7,2,none⟩=some (vS nm0)∧w'.cell? ⟨T7,3,none⟩=some (vI n0)∧w'.cell? ⟨T7,4,none⟩=some (vS s0)∧w'.cell? ⟨T7,5,none⟩=some (.slice A50 n50 c50)∧w'.cell? ⟨T7,6,none⟩=some (.slice A60 n60 c60)∧w'.cell? ⟨T7,7,none⟩=some (.slice A70 n70 c70))) kR kR ?_ (fun K hK hHeld=>?_)
  ·go_keep
  have kqq142:=@Hz _ @nn342;exact qq142):p:=h
theorem nn629(h:p:=by
 clear hK K
 all_goals
  have hx0:=HX0.out;have h3:=HH3.out;clear u0 u1 u2 u3 u4 u5 u6 u7 z0 z1 z2 z3 z4 z5 z6 z7 l0 l1 l2 l3 l4 l5 l6 l7 HX0 HH3;have f4:Fr [P] y3 y4:=((Fr.refl [P] y3).drew).trans f4;have hs4:=f4.size;have hx0:=hx0.keep (ok':=fun b=>B<b∧¬ b=T7∧¬ b=P) (Sh.of_fr f4 (fun b hb hlt=>⟨⟨hb.1,hb.2.1,hb.2.2.1⟩,by simp;omega⟩));have hx2:=hx2.keep (ok':=fun b=>B<b∧¬ b=T7∧¬ b=P) (Sh.of_fr (Fr.refl [] y4) (fun b hb hlt=>⟨by have:y3.heap.size≤b:=hb;exact⟨oM,oM,oM⟩,fun x=>by cases x⟩));have g0:=f4.keep g0 (by simpa using nB);have hne4:¬ B=T7:=by omega
  have hle2:=hr2.le;have HG:=Hz (Aq Q4 (vI 8) (vI a0) (vE) (vI 0) (vE) (vZ) (.slice (some ⟨y4.heap.size,0,none⟩) 2 2) (vZ));have HB0:=Hz ((Aj y4 T7 (vI 8) (vI a0) (vE) (vI 0) (vE) (vZ) (.slice (some ⟨y4.heap.size,0,none⟩) 2 2) (vZ)).keep g0 sO);have HF:=Hz ((F3.trans f4).step (Aj y4 T7 (vI 8) (vI a0) (vE) (vI 0) (vE) (vZ) (.slice (some ⟨y4.heap.size,0,none⟩) 2 2) (vZ)) (fun x hx => .inr (by simp at hx;omega)));have HP:=Hz ((hst2).frL (Aj y4 T7 (vI 8) (vI a0) (vE) (vI 0) (vE) (vZ) (.slice (some ⟨y4.heap.size,0,none⟩) 2 2) (vZ)) sO sO);have HS:=Hz (E0 y4 T7 (vI 8) (vI a0) (vE) (vI 0) (vE) (vZ) (.slice (some ⟨y4.heap.size,0,none⟩) 2 2) (vZ));have HX0:Hid (Ak (st8 y4 T7 (vI 8) (vI a0) (vE) (vI 0) (vE) (vZ) (.slice (some ⟨y4.heap.size,0,none⟩) 2 2) (vZ)) (fun b=>B<b∧¬ b=T7∧¬ b=P) (.mk k0 a0 nm0 n0 s0 ls0 args0 arms0) [vI k0,vI a0,vS nm0,vI n0,vS s0,.slice A50 n50 c50,.slice A60 n60 c60,.slice A70 n70 c70]):=Hz ((hx0).keep (Sh.of_fr (Aj y4 T7 (vI 8) (vI a0) (vE) (vI 0) (vE) (vZ) (.slice (some ⟨y4.heap.size,0,none⟩) 2 2) (vZ)) (fun b hb hlt=>⟨hb,by simp;exact hb.2.1⟩)));have HX2:Hid (Ak (st8 y4 T7 (vI 8) (vI a0) (vE) (vI 0) (vE) (vZ) (.slice (some ⟨y4.heap.size,0,none⟩) 2 2) (vZ)) (fun b=>B<b∧¬ b=T7∧¬ b=P) (.mk k2 a2 nm2 n2 s2 ls2 args2 arms2) [vI k2,vI a2,vS nm2,vI n2,vS s2,.slice A52 n52 c52,.slice A62 n62 c62,.slice A72 n72 c72]):=Hz ((hx2).keep (Sh.of_fr (Aj y4 T7 (vI 8) (vI a0) (vE) (vI 0) (vE) (vZ) (.slice (some ⟨y4.heap.size,0,none⟩) 2 2) (vZ)) (fun b hb hlt=>⟨hb,by simp;exact hb.2.1⟩)));unfold st8 at HG HB0 HF HP HS HX0 HX2;go_wp2_with fail;generalize (((((((y4.setCell ⟨T7,0,none⟩ (vI 8)).setCell ⟨T7,1,none⟩ (vI a0)).setCell ⟨T7,2,none⟩ (vE)).setCell ⟨T7,3,none⟩ (vI 0)).setCell ⟨T7,4,none⟩ (vE)).setCell ⟨T7,5,none⟩ (vZ)).setCell ⟨T7,6,none⟩ (.slice (some ⟨y4.heap.size,0,none⟩) 2 2)).setCell ⟨T7,7,none⟩ (vZ)=Z at HG HB0 HF HP HS HX0 HX2 ⊢;have hZ4:=Aa HG.out;have row:=An.lit2 As (T:=27) (size:=8) (ok:=fun b=>B<b∧¬ b=T7∧¬ b=P) HX0.out HX2.out rfl rfl (by exact⟨oM,oM,oM⟩);rw[HS.out] at row;have hxx:=Ak.of_rows (k:=8) (a:=a0) (nm:=[]) (n:=0) (s:=[]) (c5:=fun _=>[]) (c7:=fun _=>[]) An.nil_ row An.nil_;have hPz:=HP.out.fr ((Fr.refl [] Z).alloc (.cells #[vI k0,vI a0,vS nm0,vI n0,vS s0,.slice A50 n50 c50,.slice A60 n60 c60,.slice A70 n70 c70,vI k2,vI a2,vS nm2,vI n2,vS s2,.slice A52 n52 c52,.slice A62 n62 c62,.slice A72 n72 c72] 27));have hpl:=hPz.pl;have hpl0:=h0.pl;have hin0:=h0.inb;have hin2:=hst2.inb;have hgo:st0.i<st2.i:=Nl' (Vy hu hc hr2) (Nr' _)
  go_roundw
  case rel=>exact⟨8,a0,[],0,[],[],[(.mk k0 a0 nm0 n0 s0 ls0 args0 arms0),(.mk k2 a2 nm2 n2 s2 ls2 args2 arms2)],[],none,0,0,some ⟨y4.heap.size,0,none⟩,2,2,none,0,0,st2,HF.out.alloc _,hBT,by simp;omega,Ae HB0.out _,Ae HG.out _,hxx,hPz,oM,Hz (fun x st' h=>HR.out _ _ (.look hu (by rw[hc,if_pos rfl];exact .callE hr2 (.callE h .retE))))⟩
  case measure=>rw[hpl,hpl0];omega):p:=h
theorem U1(ts:List Tok)(hE:Cx ts)(N:Nat)(ih:Hi ts N)(P g c:Nat)(st:St)(w:World)(h:PSt P g c ts st w)(hm:16 *(ts.length-st.i)+5<N+1)(t:Tok)(ht:ts[st.i]?=some t)(hc:st.ok=false∨st.ok=true∧((t.k==3)=false∧(t.k==6)=false∨(t.k==3)=false∧(t.k==6)=true∧¬ 0<(Bz t.text).1)):Calls prog 190 #[.pointer (some ⟨P,0,none⟩)] w (Kw P g c ts st (body .app) w):=by
 have HKEY:Hid (∀ y st1 x st',Run ts (body .post) st (.e y) st1→Run ts (body (.appL y)) st1 (.e x) st'→Run ts (body .app) st (.e x) st'):=Hz (fun y st1 x st' hr1 h => .look ht (by
  rcases hc with hok|⟨hok,⟨hk3,hk6⟩| ⟨hk3,hk6,hcn⟩⟩
  ·rw[hok,if_neg sM,if_neg sM];exact(.callE hr1 (.callE h .retE))
  ·rw[hk3,hk6,if_neg sM,if_neg sM];exact(.callE hr1 (.callE h .retE))
  ·rw[hk3,if_neg sM,if_neg (by simp[hcn])];exact(.callE hr1 (.callE h .retE))))
 have HC:=Hz hc;have cc:=fun w=>Hz (Rj t.text w)
 generalize hcall:Bz t.text=cnm at *
 obtain⟨cn,cm⟩:=cnm;simp only at HC;clear hcall hc;have kqq68:=@Hz _ @nn185;exact qq68
end
theorem app_step(ts:List Tok)(hE:Cx ts)(N:Nat)(ih:Hi ts N):GE ts (N+1) 5 .app 190:=by
 intro P g c st w h hm;obtain⟨t,ht⟩:=Bn h.inb
 cases hok:st.ok with
 | false=>exact U1 ts hE N ih P g c st w h hm t ht (.inl hok)
 | true =>
  cases hk3:(t.k==3)with
  | true=>exact app_tag ts hE N ih P g c st w h hm t ht hok hk3
  | false =>
   cases hk6:(t.k==6)with
   | false=>exact U1 ts hE N ih P g c st w h hm t ht (.inr ⟨hok,.inl ⟨hk3,hk6⟩⟩)
   | true =>
    by_cases hcn:0<(Bz t.text).1
    ·exact app_op ts hE N ih P g c st w h hm t ht hok hk6 hcn
    ·exact U1 ts hE N ih P g c st w h hm t ht (.inr ⟨hok,.inr ⟨hk3,hk6,hcn⟩⟩)
section
attribute [local go_sem ↓] Go.wp_at_zero Go.wp_at_succ
theorem D1(t:Tok)(st:St)(s:LB):st.i≤(Cf t st s).i:=by unfold Cf;split <;> simp
theorem Jz(t:Tok)(st:St):st.i≤(El t st).i:=by unfold El;split <;> simp
theorem nn64(h:p:=by
 have r1:=tok_f1;refine(Cr P g c ts st t ht w1 (H.out.fr f0) HE.out).mono ?_;rintro e x3 ⟨rfl,f3⟩;go_wp2_with fail;have hTB:=Aa (f3.keep g0 nE);have q4:=Ag x3 (.cells #[vI 7,vI t.at',vE,vI 0,vE,vZ,vZ,vZ] 27);have fb4:Fr [] x3 (x3.alloc (.cells #[vI 7,vI t.at',vE,vI 0,vE,vZ,vZ,vZ] 27)):=(Fr.refl [] x3).alloc _
 generalize x3.alloc (.cells #[vI 7,vI t.at',vE,vI 0,vE,vZ,vZ,vZ] 27)=x4 at *
 have hT4:=Aa q4
 generalize x3.heap.size=T at *
 have f4:=(f0.trans f3).trans fb4;have g0:=(f3.trans fb4).keep g0 nE;have h4:=H.out.fr f4;clear r1 f0 f3 fb4;have nT1:¬ B=T:=by omega
 have nT2:¬ T=B:=by omega
 have nT3:¬ T=P:=by omega
 refine(Cp [102,117,110] P g c ts st t ht x4 h4 HE.out).mono ?_;rintro e x5 ⟨rfl,h5,f5⟩;go_wp2_with fail;have g0:=f5.keep g0 (by simpa using nB);have q4:=f5.keep q4 (by simpa using nT3);have F5:=(f4.mono (L':=[P]) (fun x hx=>by cases hx)).trans f5;obtain⟨u,hu⟩:=Bn h5.inb;refine(J6 P g c ts (Cf t st [102,117,110]) u hu x5 h5 HE.out).mono ?_;rintro e x6 ⟨rfl,h6,f6⟩;have g0:=f6.keep g0 (by simpa using nB);have q4:=f6.keep q4 (by simpa using nT3);have F6:=F5.trans f6;obtain⟨⟨m0,m1,m2,m3,m4,m5,m6,m7⟩,j0,j1,j2,j3,j4,j5,j6,j7⟩:=Ac q4;have q7:(x6.setCell ⟨T,2,none⟩ (.string ⟨(Be u (Cf t st [102,117,110])).toArray⟩)).heap[T]?=some (.cells #[vI 7,vI t.at',.string ⟨(Be u (Cf t st [102,117,110])).toArray⟩,vI 0,vE,vZ,vZ,vZ] 27 (0,0)):=Cl q4 2 _;have fs:=(Fr.refl [T] x6).setCell (p:=⟨T,2,none⟩) (.inl sM) (.string ⟨(Be u (Cf t st [102,117,110])).toArray⟩);have g0:=fs.keep g0 (by simpa using nT1);have h7:=h6.frL fs sO sO;have F7:=F6.step fs (fun x hx => .inr (by simp at hx;omega));have HQ:=Hz q7;clear q4 q7 fs;go_wp2_with fail;clear m0 m1 m2 m3 m4 m5 m6 m7 j0 j1 j2 j3 j4 j5 j6 j7;have q4:=HQ.out
 generalize x6.setCell ⟨T,2,none⟩ (.string ⟨(Be u (Cf t st [102,117,110])).toArray⟩)=x7 at *
 obtain⟨v,hv⟩:=Bn h7.inb;refine(Cp [45,62] P g c ts (El u (Cf t st [102,117,110])) v hv x7 h7 HE.out).mono ?_;rintro e x8 ⟨rfl,h8,f8⟩;go_wp2_with fail;have g0:=f8.keep g0 (by simpa using nB);have q4:=f8.keep q4 (by simpa using nT3);have hT8:=Aa q4;have F8:=F7.trans f8;have hle1:=Jz u (Cf t st [102,117,110]);have hle2:=D1 v (El u (Cf t st [102,117,110])) [45,62];refine(IH.out.seq P g c (Cf v (El u (Cf t st [102,117,110])) [45,62]) x8 h8 (by have:=HN.out;have:=h8.inb;omega)).mono ?_;rintro e x9 ⟨k2,a2,nm2,n2,s2,ls2,args2,arms2,A52,n52,c52,A62,n62,c62,A72,n72,c72,st2,rfl,hx2,hr2,hst2,f9⟩;have g0:=f9.keep g0 (by simpa using nB);have q4:=f9.keep q4 (by simpa using nT3);have F9:=F8.trans f9;have hx2:=hx2.keep (ok':=fun b=>B<b∧¬ b=T∧¬ b=P) (Sh.of_fr (Fr.refl [] x9) (fun b hb hlt=>⟨by have:x8.heap.size≤b:=hb;exact⟨oM,oM,oM⟩,fun x=>by cases x⟩));obtain⟨⟨m0,m1,m2,m3,m4,m5,m6,m7⟩,j0,j1,j2,j3,j4,j5,j6,j7⟩:=Ac q4;obtain⟨⟨l0,l1,l2,l3,l4,l5,l6,l7⟩,y0,y1,y2,y3,y4,y5,y6,y7⟩:=Ac g0;have hT9:=Aa q4;have hB9:=Aa g0;have fs:=(Fr.refl [T] x9).setCell (p:=⟨T,6,none⟩) (.inl sM) (.slice (some ⟨x9.heap.size,0,none⟩) 1 1);have g0:=fs.keep g0 (by simpa using nT1);have h10:=hst2.frL fs sO sO;have F10:=F9.step fs (fun x hx => .inr (by simp at hx;omega));have hx2:=hx2.keep (ok':=fun b=>B<b∧¬ b=P) (Sh.of_fr fs (fun b hb hlt=>⟨⟨hb.1,hb.2.2⟩,by simp;exact hb.2.1⟩));have HG:=Hz (Aq g0 (vI 7) (vI t.at') (.string ⟨(Be u (Cf t st [102,117,110])).toArray⟩) (vI 0) (vE) (vZ) (.slice (some ⟨x9.heap.size,0,none⟩) 1 1) (vZ));have HF:=Hz ((F10).step (Aj (x9.setCell ⟨T,6,none⟩ (.slice (some ⟨x9.heap.size,0,none⟩) 1 1)) B (vI 7) (vI t.at') (.string ⟨(Be u (Cf t st [102,117,110])).toArray⟩) (vI 0) (vE) (vZ) (.slice (some ⟨x9.heap.size,0,none⟩) 1 1) (vZ)) (fun x hx => .inr (by simp at hx;omega)));have HP:=Hz ((h10).frL (Aj (x9.setCell ⟨T,6,none⟩ (.slice (some ⟨x9.heap.size,0,none⟩) 1 1)) B (vI 7) (vI t.at') (.string ⟨(Be u (Cf t st [102,117,110])).toArray⟩) (vI 0) (vE) (vZ) (.slice (some ⟨x9.heap.size,0,none⟩) 1 1) (vZ)) (by simpa using nP) (by simpa using ng));have HS:Hid ((st8 (x9.setCell ⟨T,6,none⟩ (.slice (some ⟨x9.heap.size,0,none⟩) 1 1)) B (vI 7) (vI t.at') (.string ⟨(Be u (Cf t st [102,117,110])).toArray⟩) (vI 0) (vE) (vZ) (.slice (some ⟨x9.heap.size,0,none⟩) 1 1) (vZ)).heap.size=x9.heap.size):=Hz ((E0 _ _ _ _ _ _ _ _ _ _).trans (by simp[World.setCell]));have HX2:Hid (Ak (st8 (x9.setCell ⟨T,6,none⟩ (.slice (some ⟨x9.heap.size,0,none⟩) 1 1)) B (vI 7) (vI t.at') (.string ⟨(Be u (Cf t st [102,117,110])).toArray⟩) (vI 0) (vE) (vZ) (.slice (some ⟨x9.heap.size,0,none⟩) 1 1) (vZ)) (fun b=>B≤b) (.mk k2 a2 nm2 n2 s2 ls2 args2 arms2) [vI k2,vI a2,vS nm2,vI n2,vS s2,.slice A52 n52 c52,.slice A62 n62 c62,.slice A72 n72 c72]):=Hz ((hx2).keep (Sh.of_fr (Aj (x9.setCell ⟨T,6,none⟩ (.slice (some ⟨x9.heap.size,0,none⟩) 1 1)) B (vI 7) (vI t.at') (.string ⟨(Be u (Cf t st [102,117,110])).toArray⟩) (vI 0) (vE) (vZ) (.slice (some ⟨x9.heap.size,0,none⟩) 1 1) (vZ)) (fun b hb hlt=>⟨oM,by simp;omega⟩)));unfold st8 at HG HF HP HS HX2;go_wp2_with fail;generalize ((((((((x9.setCell ⟨T,6,none⟩ (.slice (some ⟨x9.heap.size,0,none⟩) 1 1)).setCell ⟨B,0,none⟩ (vI 7)).setCell ⟨B,1,none⟩ (vI t.at')).setCell ⟨B,2,none⟩ (.string ⟨(Be u (Cf t st [102,117,110])).toArray⟩)).setCell ⟨B,3,none⟩ (vI 0)).setCell ⟨B,4,none⟩ (vE)).setCell ⟨B,5,none⟩ (vZ)).setCell ⟨B,6,none⟩ (.slice (some ⟨x9.heap.size,0,none⟩) 1 1)).setCell ⟨B,7,none⟩ (vZ)=Z at HG HF HP HS HX2 ⊢;have kqq232:=@Hz _ @nn441;exact qq232):p:=h
theorem nn184(h:p:=by
 go_enter func68,ntmps68;have kqq18:=@Hz _ @nn64;exact qq18):p:=h
theorem nn441(h:p:=by
 have hxx:=Ak.of_rows (k:=7) (a:=t.at') (nm:=Be u (Cf t st [102,117,110])) (n:=0) (s:=[]) (c5:=fun _=>[]) (c7:=fun _=>[]) An.nil_ row An.nil_;refine bodyPost_ret (v:=.agg #[vI 7,vI t.at',.string ⟨(Be u (Cf t st [102,117,110])).toArray⟩,vI 0,vE,vZ,.slice (some ⟨x9.heap.size,0,none⟩) 1 1,vZ]) ?_ rfl ?_
 ·simp[results,Tryz.f68,go_sem,d0,d1,d2,d3,d4,d5,d6,d7]
 ·exact⟨_,_,_,_,_,_,_,_,_,_,_,_,_,_,_,_,_,_,rfl,by rw[hB];exact hxx,.look ht (.must_ ht (.name_ hu (.must_ hv (.callE hr2 .retE)))),HP.out.fr ((Fr.refl [] Z).alloc _),HF.out.alloc _⟩):p:=h
theorem fn_any(ts:List Tok)(hE:Cx ts)(N:Nat)(ih:Hi ts N)(P g c:Nat)(st:St)(w:World)(h:PSt P g c ts st w)(t:Tok)(ht:ts[st.i]?=some t)(hm:16 *(ts.length-(Cf t st [102,117,110]).i)+13<N):Calls prog 68 #[.pointer (some ⟨P,0,none⟩)] w (Kw P g c ts st (body .fn) w):=by
 have kqq68:=@Hz _ @nn184;exact qq68
theorem fn_step(ts:List Tok)(hE:Cx ts)(N:Nat)(ih:Hi ts N):GE ts (N+1) 14 .fn 68:=fun P g c st w h hm=>by
 obtain⟨t,ht⟩:=Bn h.inb;exact fn_any ts hE N ih P g c st w h t ht (by have:=D1 t st [102,117,110];omega)
def GF(ts:List Tok)(N:Nat):Prop:=∀ (P g c:Nat)(st:St)(w:World)(t:Tok),PSt P g c ts st w→ts[st.i]?=some t→isB t st.ok [[102,117,110]]=true→16 *(ts.length-st.i)<N→Calls prog 68 #[.pointer (some ⟨P,0,none⟩)] w (Kw P g c ts st (body .fn) w)
theorem fn0_step(ts:List Tok)(hE:Cx ts)(N:Nat)(ih:Hi ts N):GF ts (N+1):=fun P g c st w t h ht hb hm=>by
 refine fn_any ts hE N ih P g c st w h t ht ?_;have:=h.inb;unfold Cf;rw[if_pos hb];simp only;omega
theorem nn63(h:p:=by
 have HT:=Hz ht;have kqq39:=@Hz _ @nn130;exact qq39):p:=h
theorem nn130(h:p:=by
 have kqq318:=@Hz _ @nn577;exact qq318):p:=h
theorem nn183(h:p:=by
 go_enter func30,ntmps30;have kqq18:=@Hz _ @nn63;exact qq18):p:=h
theorem nn242(h:p:=by
 have kqq352:=@Hz _ @nn684;exact qq352):p:=h
theorem nn420(h:p:=by
 clear fm;have kqq359:=@Hz _ @nn702;exact qq359):p:=h
theorem nn446(h:p:=by
 have HG:=Hz (Aq g0 (vI 9) (vI t.at') (.string ⟨(Be v ⟨st.i+1,st.ok⟩).toArray⟩) (vI 0) (vE) (vZ) (.slice (some ⟨g8,0,none⟩) 2 cp8) (vZ));have HF:=Hz ((F).step (Aj y3 B (vI 9) (vI t.at') (.string ⟨(Be v ⟨st.i+1,st.ok⟩).toArray⟩) (vI 0) (vE) (vZ) (.slice (some ⟨g8,0,none⟩) 2 cp8) (vZ)) (fun x hx => .inr (by simp at hx;omega)));have HP:=Hz ((h0).frL (Aj y3 B (vI 9) (vI t.at') (.string ⟨(Be v ⟨st.i+1,st.ok⟩).toArray⟩) (vI 0) (vE) (vZ) (.slice (some ⟨g8,0,none⟩) 2 cp8) (vZ)) (by simpa using nP) (by simpa using ng));have HR:=Hz (An.keep (ok':=fun b=>B≤b) As row0 (Sh.of_fr (Aj y3 B (vI 9) (vI t.at') (.string ⟨(Be v ⟨st.i+1,st.ok⟩).toArray⟩) (vI 0) (vE) (vZ) (.slice (some ⟨g8,0,none⟩) 2 cp8) (vZ)) (fun b hb hlt=>⟨oM,by simp;omega⟩)));unfold st8 at HG HF HP HR;go_wp2_with fail;generalize (((((((y3.setCell ⟨B,0,none⟩ (vI 9)).setCell ⟨B,1,none⟩ (vI t.at')).setCell ⟨B,2,none⟩ (.string ⟨(Be v ⟨st.i+1,st.ok⟩).toArray⟩)).setCell ⟨B,3,none⟩ (vI 0)).setCell ⟨B,4,none⟩ (vE)).setCell ⟨B,5,none⟩ (vZ)).setCell ⟨B,6,none⟩ (.slice (some ⟨g8,0,none⟩) 2 cp8)).setCell ⟨B,7,none⟩ (vZ)=Z at HG HF HP HR ⊢;obtain⟨⟨d0,d1,d2,d3,d4,d5,d6,d7⟩,_⟩:=Ac HG.out;have hxx:=Ak.of_rows (k:=9) (a:=t.at') (nm:=Be v ⟨st.i+1,st.ok⟩) (n:=0) (s:=[]) (c5:=fun _=>[]) (c7:=fun _=>[]) An.nil_ HR.out An.nil_;refine bodyPost_ret (v:=.agg #[vI 9,vI t.at',.string ⟨(Be v ⟨st.i+1,st.ok⟩).toArray⟩,vI 0,vE,vZ,.slice (some ⟨g8,0,none⟩) 2 cp8,vZ]) ?_ rfl ?_
 ·exact qq126
 ·exact⟨_,_,_,_,_,_,_,_,_,_,_,_,_,_,_,_,_,_,rfl,by rw[hB];exact hxx,.look HT.out (.may_yes HT.out HB0.out (.thn (.may_no hu (HRC.out u hu) (.name_ hv (.must_ hp (.callE hr1 (.must_ hq (.callE hr2 .retE)))))))),HP.out,HF.out⟩):p:=h
theorem nn577(h:p:=by
 refine(may_no [114,101,99] P g c ts ⟨st.i+1,st.ok⟩ u hu (HRC.out u hu) x6 h0 HE.out).mono ?_;rintro e x7 ⟨rfl,fm⟩;have g0:=fm.keep g0 nE;have q0:=fm.keep q0 nE;have F:=F.trans0 fm;have h0:=h0.fr fm;clear fm;go_wp2_with fail;obtain⟨v,hv⟩:=Bn h0.inb;refine(J6 P g c ts ⟨st.i+1,st.ok⟩ v hv x7 h0 HE.out).mono ?_;rintro e x8 ⟨rfl,h0,fm⟩;have g0:=fm.keep g0 sO;have q0:=fm.keep q0 sO;have F:=F.trans fm;have kqq361:=@Hz _ @nn711;exact qq361):p:=h
theorem nn579(h:p:=by
 refine Am (i:=3) rfl kR (fun K3 hK3=>?hr1004);go_simp;refine((cS _ (h0.fr (Fr.refl [] y0).drew)).out).mono ?_;rintro e x8 ⟨k1,a1,nm1,n1,s1,ls1,args1,arms1,A51,n51,c51,A61,n61,c61,A71,n71,c71,st5,rfl,hx1,hr1,hst5,f8⟩;have hst:=hst5;have Q8:=f8.keep (w:=y0.drew) q0 sO;have hT8:=Aa Q8;have ROW9:=An.keep (w':=x8.alloc (.cells #[vI k1,vI a1,vS nm1,vI n1,vS s1,.slice A51 n51 c51,.slice A61 n61 c61,.slice A71 n71 c71] 27)) (ok':=fun b=>B<b∧¬ b=T∧¬ b=P) As ROWH.out (Sh.of_fr (((Fr.refl [P] y0).drew.trans f8).alloc _) (fun b hb hlt=>⟨hb,by simp;exact hb.2.2⟩));go_simp;refine hK3.out _ _ ?hS1004 (fun hHeld=>?hq1004)
 case hS1004=>exact(Ac Q8).1.2.2.2.2.2.2.1
 clear hK3 K3
 (try simp only[Act.put,sX])
 refine Am (i:=4) rfl kR (fun K4 hK4=>?hr1005);go_simp;refine hK4.out _ _ ?hS1005 (fun hHeld=>?hq1005)
 case hS1005=>exact Ab (Ae Q8 _) 6
 clear hK4 K4
 (try simp only[Act.put,sX])
 refine Am (i:=5) rfl kR (fun K5 hK5=>?hr1006);have kqq347:=@Hz _ @nn664;exact qq347):p:=h
theorem nn621(h:p:=by
 obtain⟨F,g0,q0,h0,row,hsh,hnew,hsz⟩:=Fc (fld:=6) (size:=8) As f8 hx2 rfl hst g0 q0 row F oM oM oM oM oM oM oM hown9 hgrow9 hfp9 (VV':=#[vI 9,vI t.at',.string ⟨(Be v ⟨st.i+1,st.ok⟩).toArray⟩,vI 0,vE,vZ,.slice (some ⟨g8,0,none⟩) 2 cp8,vZ]) rfl;clear ROWH ROW9 Q8 Q9 hown9 hgrow9 hfp9 f8 hst hT8 hT9 hTwr
 generalize w9.setCell ⟨T,6,none⟩ (.slice (some ⟨g8,0,none⟩) 2 cp8)=y3 at *
 have kqq235:=@Hz _ @nn446;exact qq235):p:=h
theorem nn664(h:p:=by
 refine hK5.out _ _ ?hS1006 (fun hHeld=>?hq1006)
 case hS1006=>exact u6
 clear hK5 K5;have kqq366:=@Hz _ @nn727;exact qq366):p:=h
theorem nn671(h:p:=by
 have HQ:=Hz q1;clear q0 q1 fs;go_wp2_with fail;clear m0 m1 m2 m3 m4 m5 m6 m7 j0 j1 j2 j3 j4 j5 j6 j7;have q0:=HQ.out;clear HQ
 generalize x8.setCell ⟨T,2,none⟩ (.string ⟨(Be v ⟨st.i+1,st.ok⟩).toArray⟩)=x8n at *
 have row:Wc x8n (fun b=>B<b∧¬ b=T∧¬ b=P) (vZ) ([]:List Ad) (fun _=>[]):=An.nil_;obtain⟨p,hp⟩:=Bn h0.inb;refine(Cp [61] P g c ts (El v ⟨st.i+1,st.ok⟩) p hp x8n h0 HE.out).mono ?_;rintro e y0 ⟨rfl,h0,fm⟩;have kqq225:=@Hz _ @nn420;exact qq225):p:=h
theorem nn684(h:p:=by
 have kqq332:=@Hz _ @nn621;exact qq332):p:=h
theorem nn698(h:p:=by
 refine Bo (fun w'=>w'.cell? ⟨T,6,none⟩=some (.slice (some ⟨g9,0,none⟩) 1 cp9)) kR kR ?hS1009 (fun K hK hHeld=>?hr1009)
 case hS1009=>go_keep
 have kqq369:=@Hz _ @nn738;exact qq369):p:=h
theorem nn702(h:p:=by
 have hle1:=Jz v ⟨st.i+1,st.ok⟩;have hle2:=D1 p (El v ⟨st.i+1,st.ok⟩) [61];simp only at hle1;have cS:=fun W hW=>Hz (IH.out.seq P g c (Cf p (El v ⟨st.i+1,st.ok⟩) [61]) W hW (by have:=HN.out;have:=h0.inb;omega))
 have kqq367:=@Hz _ @nn731;exact qq367):p:=h
theorem nn711(h:p:=by
 have q1:(x8.setCell ⟨T,2,none⟩ (.string ⟨(Be v ⟨st.i+1,st.ok⟩).toArray⟩)).heap[T]?=some (.cells #[vI 9,vI t.at',.string ⟨(Be v ⟨st.i+1,st.ok⟩).toArray⟩,vI 0,vE,vZ,vZ,vZ] 27 (0,0)):=Cl q0 2 _;have fs:=(Fr.refl [T] x8).setCell (p:=⟨T,2,none⟩) (.inl sM) (.string ⟨(Be v ⟨st.i+1,st.ok⟩).toArray⟩);have kqq349:=@Hz _ @nn671;exact qq349):p:=h
theorem nn722(h:p:=by
 refine hK3.out _ _ ?hS1013 (fun hHeld=>?hq1013)
 case hS1013=>exact(Ac Q8).1.2.2.2.2.2.2.1
 have kqq371:=@Hz _ @nn743;exact qq371):p:=h
theorem nn727(h:p:=by
 refine wpAnyH_done kR ?hr1008 _;refine Bi rfl ?hq1008;go_simp;refine hK.out _ _ ?hs1008;have kqq370:=@Hz _ @nn739;exact qq370):p:=h
theorem nn731(h:p:=by
 refine Bo (fun w'=>w'.cell? ⟨T,6,none⟩=some (vZ)) kR kR ?hS1000 (fun K hK hHeld=>?hr1000)
 case hS1000=>go_keep
 have kqq319:=@Hz _ @nn579;exact qq319):p:=h
theorem nn738(h:p:=by
 have kqq364:=@Hz _ @nn722;exact qq364):p:=h
theorem nn739(h:p:=by
 obtain⟨F,g0,q0,h0,row,hsh,hnew,hsz⟩:=Fc (fld:=6) (size:=8) As f8 hx1 rfl hst g0 q0 row F oM oM oM oM oM oM oM hown9 hgrow9 hfp9 (VV':=#[vI 9,vI t.at',.string ⟨(Be v ⟨st.i+1,st.ok⟩).toArray⟩,vI 0,vE,vZ,.slice (some ⟨g9,0,none⟩) 1 cp9,vZ]) rfl;have kqq358:=@Hz _ @nn698;exact qq358):p:=h
theorem nn743(h:p:=by
 have kqq85:=@Hz _ @nn242;exact qq85):p:=h
theorem Xb(ts:List Tok)(hE:Cx ts)(N:Nat)(ih:Hi ts N)(P g c:Nat)(st:St)(w:World)(h:PSt P g c ts st w)(hm:16 *(ts.length-st.i)+12<N+1)(t:Tok)(ht:ts[st.i]?=some t)(hb0:isB t st.ok [[108,101,116]]=true)(hr:∀ u,ts[st.i+1]?=some u→isB u st.ok [[114,101,99]]=false):Calls prog 30 #[.pointer (some ⟨P,0,none⟩)] w (Kw P g c ts st (body .item) w):=by
 have HRC:Hid (∀ u,ts[st.i+1]?=some u→isB u st.ok [[114,101,99]]=false):=Hz hr;clear hr;have HB0:=Hz hb0;clear hb0;have kqq68:=@Hz _ @nn183;exact qq68
theorem nn62(h:p:=by
 have HT:=Hz ht;have kqq39:=@Hz _ @nn131;exact qq39):p:=h
theorem nn131(h:p:=by
 have kqq318:=@Hz _ @nn576;exact qq318):p:=h
theorem nn182(h:p:=by
 go_enter func30,ntmps30;have kqq18:=@Hz _ @nn62;exact qq18):p:=h
theorem nn241(h:p:=by
 refine hK5.out _ _ ?hS1033 (fun hHeld=>?hq1033)
 case hS1033=>exact u6
 clear hK5 K5
 (try simp only[Act.put,sX])
 refine Af (i:=6) (v:=?v1034) rfl kR kR kR (fun _ _ _ h=>h) (Or.inl ⟨by rfl,?hy1034⟩) aS ?hr1034
 case hy1034 =>
  exact qq9
 (try simp only[Act.put,sX])
 refine wpAnyH_done kR ?hr1035 _;refine Bi rfl ?hq1035;go_simp;refine hK.out _ _ ?hs1035;have kqq332:=@Hz _ @nn622;exact qq332):p:=h
theorem nn419(h:p:=by
 clear fm;have kqq361:=@Hz _ @nn713;exact qq361):p:=h
theorem nn447(h:p:=by
 have HG:=Hz (Aq g0 (vI 10) (vI t.at') (.string ⟨(Be v ⟨st.i+1+1,st.ok⟩).toArray⟩) (vI 0) (vE) (vZ) (.slice (some ⟨g8,0,none⟩) 2 cp8) (vZ));have HF:=Hz ((F).step (Aj y3 B (vI 10) (vI t.at') (.string ⟨(Be v ⟨st.i+1+1,st.ok⟩).toArray⟩) (vI 0) (vE) (vZ) (.slice (some ⟨g8,0,none⟩) 2 cp8) (vZ)) (fun x hx => .inr (by simp at hx;omega)));have HP:=Hz ((h0).frL (Aj y3 B (vI 10) (vI t.at') (.string ⟨(Be v ⟨st.i+1+1,st.ok⟩).toArray⟩) (vI 0) (vE) (vZ) (.slice (some ⟨g8,0,none⟩) 2 cp8) (vZ)) (by simpa using nP) (by simpa using ng));have HR:=Hz (An.keep (ok':=fun b=>B≤b) As row0 (Sh.of_fr (Aj y3 B (vI 10) (vI t.at') (.string ⟨(Be v ⟨st.i+1+1,st.ok⟩).toArray⟩) (vI 0) (vE) (vZ) (.slice (some ⟨g8,0,none⟩) 2 cp8) (vZ)) (fun b hb hlt=>⟨oM,by simp;omega⟩)));unfold st8 at HG HF HP HR;go_wp2_with fail;generalize (((((((y3.setCell ⟨B,0,none⟩ (vI 10)).setCell ⟨B,1,none⟩ (vI t.at')).setCell ⟨B,2,none⟩ (.string ⟨(Be v ⟨st.i+1+1,st.ok⟩).toArray⟩)).setCell ⟨B,3,none⟩ (vI 0)).setCell ⟨B,4,none⟩ (vE)).setCell ⟨B,5,none⟩ (vZ)).setCell ⟨B,6,none⟩ (.slice (some ⟨g8,0,none⟩) 2 cp8)).setCell ⟨B,7,none⟩ (vZ)=Z at HG HF HP HR ⊢;obtain⟨⟨d0,d1,d2,d3,d4,d5,d6,d7⟩,_⟩:=Ac HG.out;have hxx:=Ak.of_rows (k:=10) (a:=t.at') (nm:=Be v ⟨st.i+1+1,st.ok⟩) (n:=0) (s:=[]) (c5:=fun _=>[]) (c7:=fun _=>[]) An.nil_ HR.out An.nil_;refine bodyPost_ret (v:=.agg #[vI 10,vI t.at',.string ⟨(Be v ⟨st.i+1+1,st.ok⟩).toArray⟩,vI 0,vE,vZ,.slice (some ⟨g8,0,none⟩) 2 cp8,vZ]) ?_ rfl ?_
 ·exact qq126
 ·exact⟨_,_,_,_,_,_,_,_,_,_,_,_,_,_,_,_,_,_,rfl,by rw[hB];exact hxx,.look HT.out (.may_yes HT.out HB0.out (.thn (.may_yes hu (HRC.out u hu) (.name_ hv (.must_ hp (.callE hr1 (.must_ hq (.callE hr2 .retE)))))))),HP.out,HF.out⟩):p:=h
theorem nn576(h:p:=by
 refine(may_yes [114,101,99] P g c ts ⟨st.i+1,st.ok⟩ u hu (HRC.out u hu) x6 h0 HE.out).mono ?_;rintro e x7 ⟨rfl,h0,fm⟩;have g0:=fm.keep g0 sO;have q0:=fm.keep q0 sO;have F:=F.trans fm;clear fm;go_wp2_with fail;obtain⟨v,hv⟩:=Bn h0.inb;refine(J6 P g c ts ⟨st.i+1+1,st.ok⟩ v hv x7 h0 HE.out).mono ?_;rintro e x8 ⟨rfl,h0,fm⟩;have g0:=fm.keep g0 sO;have q0:=fm.keep q0 sO;have F:=F.trans fm;have kqq361:=@Hz _ @nn712;exact qq361):p:=h
theorem nn583(h:p:=by
 clear m0 m1 m2 m3 m4 m5 m6 m7 j0 j1 j2 j3 j4 j5 j6 j7;have q0:=HQ.out;clear HQ
 generalize y0.setCell ⟨T,0,none⟩ (vI 10)=y0n at *
 have row:Wc y0n (fun b=>B<b∧¬ b=T∧¬ b=P) (vZ) ([]:List Ad) (fun _=>[]):=An.nil_;have kqq359:=@Hz _ @nn701;exact qq359):p:=h
theorem nn622(h:p:=by
 obtain⟨F,g0,q0,h0,row,hsh,hnew,hsz⟩:=Fc (fld:=6) (size:=8) As f8 hx2 rfl hst g0 q0 row F oM oM oM oM oM oM oM hown9 hgrow9 hfp9 (VV':=#[vI 10,vI t.at',.string ⟨(Be v ⟨st.i+1+1,st.ok⟩).toArray⟩,vI 0,vE,vZ,.slice (some ⟨g8,0,none⟩) 2 cp8,vZ]) rfl;clear ROWH ROW9 Q8 Q9 hown9 hgrow9 hfp9 f8 hst hT8 hT9 hTwr
 generalize w9.setCell ⟨T,6,none⟩ (.slice (some ⟨g8,0,none⟩) 2 cp8)=y3 at *
 have kqq235:=@Hz _ @nn447;exact qq235):p:=h
theorem nn663(h:p:=by
 refine hK5.out _ _ ?hS1024 (fun hHeld=>?hq1024)
 case hS1024=>exact u6
 clear hK5 K5
 (try simp only[Act.put,sX])
 refine Af (i:=6) (v:=?v1025) rfl kR kR kR (fun _ _ _ h=>h) (Or.inl ⟨by rfl,?hy1025⟩) aS ?hr1025
 case hy1025 =>
  exact qq9
 (try simp only[Act.put,sX])
 refine wpAnyH_done kR ?hr1026 _;refine Bi rfl ?hq1026;go_simp;refine hK.out _ _ ?hs1026;clear hK K;clear l0 l1 l2 l3 l4 l5 l6 l7 u0 u1 u2 u3 u4 u5 u6 u7 z0 z1 z2 z3 z4 z5 z6 z7;have f8:Fr [P] y0n x8:=((Fr.refl [P] y0n).drew).trans f8;have row:=ROWH.out;obtain⟨F,g0,q0,h0,row,hsh,hnew,hsz⟩:=Fc (fld:=6) (size:=8) As f8 hx1 rfl hst g0 q0 row F oM oM oM oM oM oM oM hown9 hgrow9 hfp9 (VV':=#[vI 10,vI t.at',.string ⟨(Be v ⟨st.i+1+1,st.ok⟩).toArray⟩,vI 0,vE,vZ,.slice (some ⟨g9,0,none⟩) 1 cp9,vZ]) rfl;have kqq358:=@Hz _ @nn699;exact qq358):p:=h
theorem nn672(h:p:=by
 have HQ:=Hz q1;clear q0 q1 fs;go_wp2_with fail;clear m0 m1 m2 m3 m4 m5 m6 m7 j0 j1 j2 j3 j4 j5 j6 j7;have q0:=HQ.out;clear HQ
 generalize x8.setCell ⟨T,2,none⟩ (.string ⟨(Be v ⟨st.i+1+1,st.ok⟩).toArray⟩)=x8n at *
 have row:Wc x8n (fun b=>B<b∧¬ b=T∧¬ b=P) (vZ) ([]:List Ad) (fun _=>[]):=An.nil_;obtain⟨p,hp⟩:=Bn h0.inb;refine(Cp [61] P g c ts (El v ⟨st.i+1+1,st.ok⟩) p hp x8n h0 HE.out).mono ?_;rintro e y0 ⟨rfl,h0,fm⟩;have kqq225:=@Hz _ @nn419;exact qq225):p:=h
theorem nn699(h:p:=by
 refine Bo (fun w'=>w'.cell? ⟨T,6,none⟩=some (.slice (some ⟨g9,0,none⟩) 1 cp9)) kR kR ?hS1027 (fun K hK hHeld=>?hr1027)
 case hS1027=>go_keep
 refine Af (i:=0) (v:=?v1028) rfl kR kR kR (fun _ _ _ h=>h) (Or.inl ⟨by rfl,?hy1028⟩) aS ?hr1028
 case hy1028 =>
  exact qq9
 (try simp only[Act.put,sX])
 refine Af (i:=1) (v:=?v1029) rfl kR kR kR (fun _ _ _ h=>h) (Or.inl ⟨by rfl,?hy1029⟩) aS ?hr1029
 case hy1029 =>
  exact qq9
 (try simp only[Act.put,sX])
 refine Af (i:=2) (v:=?v1030) rfl kR kR kR (fun _ _ _ h=>h) (Or.inl ⟨by rfl,?hy1030⟩) aS ?hr1030
 case hy1030 =>
  exact qq9
 (try simp only[Act.put,sX])
 refine Am (i:=3) rfl kR (fun K3 hK3=>?hr1031);have kqq364:=@Hz _ @nn721;exact qq364):p:=h
theorem nn701(h:p:=by
 have hle1:=Jz v ⟨st.i+1+1,st.ok⟩;have hle2:=D1 p (El v ⟨st.i+1+1,st.ok⟩) [61];simp only at hle1;have cS:=fun W hW=>Hz (IH.out.fn P g c (Cf p (El v ⟨st.i+1+1,st.ok⟩) [61]) W hW (by have:=HN.out;have:=h0.inb;omega))
 have kqq367:=@Hz _ @nn732;exact qq367):p:=h
theorem nn712(h:p:=by
 have q1:(x8.setCell ⟨T,2,none⟩ (.string ⟨(Be v ⟨st.i+1+1,st.ok⟩).toArray⟩)).heap[T]?=some (.cells #[vI 9,vI t.at',.string ⟨(Be v ⟨st.i+1+1,st.ok⟩).toArray⟩,vI 0,vE,vZ,vZ,vZ] 27 (0,0)):=Cl q0 2 _;have fs:=(Fr.refl [T] x8).setCell (p:=⟨T,2,none⟩) (.inl sM) (.string ⟨(Be v ⟨st.i+1+1,st.ok⟩).toArray⟩);have kqq349:=@Hz _ @nn672;exact qq349):p:=h
theorem nn713(h:p:=by
 have q1:(y0.setCell ⟨T,0,none⟩ (vI 10)).heap[T]?=some (.cells #[vI 10,vI t.at',.string ⟨(Be v ⟨st.i+1+1,st.ok⟩).toArray⟩,vI 0,vE,vZ,vZ,vZ] 27 (0,0)):=Cl q0 0 _;have fs:=(Fr.refl [T] y0).setCell (p:=⟨T,0,none⟩) (.inl sM) (vI 10);have kqq320:=@Hz _ @nn583;exact qq320):p:=h
theorem nn721(h:p:=by
 refine hK3.out _ _ ?hS1031 (fun hHeld=>?hq1031)
 case hS1031=>exact(Ac Q8).1.2.2.2.2.2.2.1
 clear hK3 K3
 (try simp only[Act.put,sX])
 refine Am (i:=4) rfl kR (fun K4 hK4=>?hr1032);go_simp;refine hK4.out _ _ ?hS1032 (fun hHeld=>?hq1032)
 case hS1032=>exact Ab (Ae Q8 _) 6
 clear hK4 K4
 (try simp only[Act.put,sX])
 refine Am (i:=5) rfl kR (fun K5 hK5=>?hr1033);have kqq85:=@Hz _ @nn241;exact qq85):p:=h
theorem nn732(h:p:=by
 refine Bo (fun w'=>w'.cell? ⟨T,6,none⟩=some (vZ)) kR kR ?hS1018 (fun K hK hHeld=>?hr1018)
 case hS1018=>go_keep
 refine Af (i:=0) (v:=?v1019) rfl kR kR kR (fun _ _ _ h=>h) (Or.inl ⟨by rfl,?hy1019⟩) aS ?hr1019
 case hy1019 =>
  exact qq9
 (try simp only[Act.put,sX])
 refine Af (i:=1) (v:=?v1020) rfl kR kR kR (fun _ _ _ h=>h) (Or.inl ⟨by rfl,?hy1020⟩) aS ?hr1020
 case hy1020 =>
  exact qq9
 (try simp only[Act.put,sX])
 refine Af (i:=2) (v:=?v1021) rfl kR kR kR (fun _ _ _ h=>h) (Or.inl ⟨by rfl,?hy1021⟩) aS ?hr1021
 case hy1021 =>
  exact qq9
 (try simp only[Act.put,sX])
 refine Am (i:=3) rfl kR (fun K3 hK3=>?hr1022);go_simp;refine((cS _ (h0.fr (Fr.refl [] y0n).drew)).out).mono ?_;rintro e x8 ⟨k1,a1,nm1,n1,s1,ls1,args1,arms1,A51,n51,c51,A61,n61,c61,A71,n71,c71,st5,rfl,hx1,hr1,hst5,f8⟩;have hst:=hst5;have Q8:=f8.keep (w:=y0n.drew) q0 sO;have hT8:=Aa Q8;have ROW9:=An.keep (w':=x8.alloc (.cells #[vI k1,vI a1,vS nm1,vI n1,vS s1,.slice A51 n51 c51,.slice A61 n61 c61,.slice A71 n71 c71] 27)) (ok':=fun b=>B<b∧¬ b=T∧¬ b=P) As ROWH.out (Sh.of_fr (((Fr.refl [P] y0n).drew.trans f8).alloc _) (fun b hb hlt=>⟨hb,by simp;exact hb.2.2⟩));go_simp;refine hK3.out _ _ ?hS1022 (fun hHeld=>?hq1022)
 case hS1022=>exact(Ac Q8).1.2.2.2.2.2.2.1
 clear hK3 K3
 (try simp only[Act.put,sX])
 refine Am (i:=4) rfl kR (fun K4 hK4=>?hr1023);go_simp;refine hK4.out _ _ ?hS1023 (fun hHeld=>?hq1023)
 case hS1023=>exact Ab (Ae Q8 _) 6
 clear hK4 K4
 (try simp only[Act.put,sX])
 refine Am (i:=5) rfl kR (fun K5 hK5=>?hr1024);have kqq347:=@Hz _ @nn663;exact qq347):p:=h
theorem item_It2(ts:List Tok)(hE:Cx ts)(N:Nat)(ih:Hi ts N)(P g c:Nat)(st:St)(w:World)(h:PSt P g c ts st w)(hm:16 *(ts.length-st.i)+12<N+1)(t:Tok)(ht:ts[st.i]?=some t)(hb0:isB t st.ok [[108,101,116]]=true)(hr:∀ u,ts[st.i+1]?=some u→isB u st.ok [[114,101,99]]=true):Calls prog 30 #[.pointer (some ⟨P,0,none⟩)] w (Kw P g c ts st (body .item) w):=by
 have HRC:Hid (∀ u,ts[st.i+1]?=some u→isB u st.ok [[114,101,99]]=true):=Hz hr;clear hr;have HB0:=Hz hb0;clear hb0;have kqq68:=@Hz _ @nn182;exact qq68
theorem nn17(h:p:=by
 rintro e x5 ⟨rfl,f5⟩;go_wp2_with fail;have f5:=fa.trans f5;have g0:=f5.keep g0 nE;have h0:=h4.fr f5;have F:=f4.trans f5;have hs5:=Aa g0;refine(IHF.out P g c st x5 t h0 HT.out HB1.out (by have:=HN.out;omega)).mono ?_;have kqq360:=@Hz _ @nn708;exact qq360):p:=h
theorem nn73(h:p:=by
 refine bodyPost_ret (v:=.agg #[vI k2,vI a2,vS nm2,vI n2,vS s2,.slice A52 n52 c52,.slice A62 n62 c62,.slice A72 n72 c72]) ?_ rfl ?_
 ·exact qq126
 ·exact⟨_,_,_,_,_,_,_,_,_,_,_,_,_,_,_,_,_,_,rfl,by rw[hB];exact HX.out,.look HT.out (.may_no HT.out HB0.out (.els (.isC_ HT.out HB1.out (.thn (.callE hr2 .retE))))),HP.out,HF.out⟩):p:=h
theorem nn254(h:p:=by
 have HF:=Hz (((F.mono (fun x hx=>by cases hx)).trans f6).step (Aj x6 B (vI k2) (vI a2) (vS nm2) (vI n2) (vS s2) (.slice A52 n52 c52) (.slice A62 n62 c62) (.slice A72 n72 c72)) (fun x hx => .inr (by simp at hx;omega)));have kqq19:=@Hz _ @nn73;exact qq19):p:=h
theorem nn708(h:p:=by
 have kqq91:=@Hz _ @nn254;exact qq91):p:=h
theorem item_fun(ts:List Tok)(hE:Cx ts)(N:Nat)(ih:Hi ts N)(P g c:Nat)(st:St)(w:World)(h:PSt P g c ts st w)(hm:16 *(ts.length-st.i)+12<N+1)(t:Tok)(ht:ts[st.i]?=some t)(hb0:isB t st.ok [[108,101,116]]=false)(hb1:isB t st.ok [[102,117,110]]=true)(ihF:GF ts N):Calls prog 30 #[.pointer (some ⟨P,0,none⟩)] w (Kw P g c ts st (body .item) w):=by
 have IHF:=Hz ihF;clear ihF;have HB0:=Hz hb0;clear hb0;have HB1:=Hz hb1;clear hb1;have kqq8:=@Hz _ @nn17;exact qq8
def GA(ts:List Tok)(N:Nat):Prop:=∀ (P g c:Nat)(st:St)(k a:Int)(w:World),PSt P g c ts st w→16 *(ts.length-st.i)+14<N→Calls prog 70 #[.pointer (some ⟨P,0,none⟩),.agg #[vI k,vI a,vE,vI 0,vE,vZ,vZ,vZ]] w (Kw P g c ts st (body (.arms k a)) w)
theorem nn16(h:p:=by
 have kqq333:=@Hz _ @nn625;exact qq333):p:=h
theorem nn74(h:p:=by
 refine bodyPost_ret (v:=.agg #[vI k2,vI a2,vS nm2,vI n2,vS s2,.slice A52 n52 c52,.slice A62 n62 c62,.slice A72 n72 c72]) ?_ rfl ?_
 ·exact qq126
 ·exact⟨_,_,_,_,_,_,_,_,_,_,_,_,_,_,_,_,_,_,rfl,by rw[hB];exact HX.out,.look HT.out (.may_no HT.out HB0.out (.els (.isC_ HT.out HB1.out (.els (.may_yes HT.out HB2.out (.thn (.callE hr2 .retE))))))),HP.out,HF.out⟩):p:=h
theorem nn255(h:p:=by
 have HF:=Hz ((F.trans f6).step (Aj x6 B (vI k2) (vI a2) (vS nm2) (vI n2) (vS s2) (.slice A52 n52 c52) (.slice A62 n62 c62) (.slice A72 n72 c72)) (fun x hx => .inr (by simp at hx;omega)));have kqq19:=@Hz _ @nn74;exact qq19):p:=h
theorem nn625(h:p:=by
 refine(may_yes [109,97,116,99,104] P g c ts st t HT.out HB2.out x4 h4 HE.out).mono ?_;have kqq348:=@Hz _ @nn665;exact qq348):p:=h
theorem nn665(h:p:=by
 obtain⟨m0,m1,m2,m3,_⟩:=Ar q3;go_wp2_with fail;refine(IHA.out P g c ⟨st.i+1,st.ok⟩ 16 t.at' x5 h0 (by have:=HN.out;have:=h0.inb;simp only at this ⊢;omega)).mono ?_;have kqq360:=@Hz _ @nn705;exact qq360):p:=h
theorem nn705(h:p:=by
 clear m0 m1 m2 m3 q3;have kqq91:=@Hz _ @nn255;exact qq91):p:=h
theorem Zu(ts:List Tok)(hE:Cx ts)(N:Nat)(ih:Hi ts N)(P g c:Nat)(st:St)(w:World)(h:PSt P g c ts st w)(hm:16 *(ts.length-st.i)+12<N+1)(t:Tok)(ht:ts[st.i]?=some t)(hb0:isB t st.ok [[108,101,116]]=false)(hb1:isB t st.ok [[102,117,110]]=false)(hb2:isB t st.ok [[109,97,116,99,104]]=true)(ihA:GA ts N):Calls prog 30 #[.pointer (some ⟨P,0,none⟩)] w (Kw P g c ts st (body .item) w):=by
 have IHA:=Hz ihA;clear ihA;have HB0:=Hz hb0;clear hb0;have HB1:=Hz hb1;clear hb1;have HB2:=Hz hb2;clear hb2;have kqq8:=@Hz _ @nn16;exact qq8
theorem nn15(h:p:=by
 have kqq63:=@Hz _ @nn170;exact qq63):p:=h
theorem nn75(h:p:=by
 refine bodyPost_ret (v:=.agg #[vI k2,vI a2,vS nm2,vI n2,vS s2,.slice A52 n52 c52,.slice A62 n62 c62,.slice A72 n72 c72]) ?_ rfl ?_
 ·exact qq126
 ·exact⟨_,_,_,_,_,_,_,_,_,_,_,_,_,_,_,_,_,_,rfl,by rw[hB];exact HX.out,.look HT.out (.may_no HT.out HB0.out (.els (.isC_ HT.out HB1.out (.els (.may_no HT.out HB2.out (.els (.may_yes HT.out HB3.out (.thn (.callE hr2 .retE))))))))),HP.out,HF.out⟩):p:=h
theorem nn170(h:p:=by
 refine(may_yes [116,114,121] P g c ts st t HT.out HB3.out x4 h4 HE.out).mono ?_;have kqq348:=@Hz _ @nn669;exact qq348):p:=h
theorem nn252(h:p:=by
 have HF:=Hz ((F.trans f6).step (Aj x6 B (vI k2) (vI a2) (vS nm2) (vI n2) (vS s2) (.slice A52 n52 c52) (.slice A62 n62 c62) (.slice A72 n72 c72)) (fun x hx => .inr (by simp at hx;omega)));have kqq19:=@Hz _ @nn75;exact qq19):p:=h
theorem nn669(h:p:=by
 obtain⟨m0,m1,m2,m3,_⟩:=Ar q3;go_wp2_with fail;refine(IHA.out P g c ⟨st.i+1,st.ok⟩ 17 t.at' x5 h0 (by have:=HN.out;have:=h0.inb;simp only at this ⊢;omega)).mono ?_;have kqq360:=@Hz _ @nn704;exact qq360):p:=h
theorem nn704(h:p:=by
 clear m0 m1 m2 m3 q3;have kqq91:=@Hz _ @nn252;exact qq91):p:=h
theorem item_try(ts:List Tok)(hE:Cx ts)(N:Nat)(ih:Hi ts N)(P g c:Nat)(st:St)(w:World)(h:PSt P g c ts st w)(hm:16 *(ts.length-st.i)+12<N+1)(t:Tok)(ht:ts[st.i]?=some t)(hb0:isB t st.ok [[108,101,116]]=false)(hb1:isB t st.ok [[102,117,110]]=false)(hb2:isB t st.ok [[109,97,116,99,104]]=false)(hb3:isB t st.ok [[116,114,121]]=true)(ihA:GA ts N):Calls prog 30 #[.pointer (some ⟨P,0,none⟩)] w (Kw P g c ts st (body .item) w):=by
 have IHA:=Hz ihA;clear ihA;have HB0:=Hz hb0;clear hb0;have HB1:=Hz hb1;clear hb1;have HB2:=Hz hb2;clear hb2;have HB3:=Hz hb3;clear hb3;have kqq8:=@Hz _ @nn15;exact qq8
end
end Go.Proofs.YtlafbbnikgcdlaaGreatDoor
