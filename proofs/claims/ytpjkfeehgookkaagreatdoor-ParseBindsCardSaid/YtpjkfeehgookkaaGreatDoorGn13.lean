/- A part of the proof: It4. -/
import Derived.Deep.DrawnRows
import Derived.Test.YtpjkfeehgookkaaGreatDoorGn12
namespace Go.Proofs.YtpjkfeehgookkaaGreatDoor
open Go.RowKit
open _root_.Go.Proofs.Tryz
set_option linter.all false
set_option maxHeartbeats 16000000
set_option maxRecDepth 100000
section
attribute [local go_sem ↓] Go.wp_at_zero Go.wp_at_succ
theorem item_if(ts:List Tok)(hE:Be ts)(N:Nat)(ih:Dp ts N)(P g c:Nat)(st:St)(w:World)(h:PSt P g c ts st w)(hm:16 *(ts.length-st.i)+12<N+1)(t:Tok)(ht:ts[st.i]?=some t)(hb0:isB t st.ok [[108,101,116]]=false)(hb1:isB t st.ok [[102,117,110]]=false)(hb2:isB t st.ok [[109,97,116,99,104]]=false)(hb3:isB t st.ok [[116,114,121]]=false)(hb4:isB t st.ok [[105,102]]=true):Calls prog 33 #[.pointer (some ⟨P,0,none⟩)] w (Fl P g c ts st (body .item) w):=by
 have HB0:=Hz hb0;clear hb0;have HB1:=Hz hb1;clear hb1;have HB2:=Hz hb2;clear hb2;have HB3:=Hz hb3;clear hb3;have HB4:=Hz hb4;clear hb4;have H:=Hz h;have hP:=Aa h.blk;have hgl:=h.lt;have hin:=h.inb;have HN:=Hz hm;have HE:=Hz hE;have IH:=Hz ih;clear h hm hE ih;go_enter func33,ntmps33;go_wp2_with fail;have f0:Fr [] w (w.alloc (.cells #[vI 0,vI 0,vE,vI 0,vE,vZ,vZ,vZ] 27)):=(Fr.refl [] w).alloc _;have g0:=Ab w (.cells #[vI 0,vI 0,vE,vI 0,vE,vZ,vZ,vZ] 27)
 generalize w.alloc (.cells #[vI 0,vI 0,vE,vI 0,vE,vZ,vZ,vZ] 27)=w1 at *
 generalize hB:w.heap.size=B at *
 have hB1:=Aa g0;have nP:¬ P=B:=by omega
 have nB:¬ B=P:=by omega
 have ng:¬ g=B:=by omega
 have HT:=Hz ht;refine(Bd P g c ts st t ht w1 (H.out.fr f0) HE.out).mono ?_;rintro e x3 ⟨rfl,f3⟩;go_wp2_with fail;have q3:=Ab x3 (.cells #[vI t.k,vI t.at',.string ⟨t.text.toArray⟩,vI t.n] 46);have fb4:Fr [] x3 (x3.alloc (.cells #[vI t.k,vI t.at',.string ⟨t.text.toArray⟩,vI t.n] 46)):=(Fr.refl [] x3).alloc _
 generalize x3.alloc (.cells #[vI t.k,vI t.at',.string ⟨t.text.toArray⟩,vI t.n] 46)=x4 at *
 have hT4:=Aa q3;have hs3:=f3.size
 generalize x3.heap.size=T3 at *
 have f4:=(f0.trans f3).trans fb4;have g0:=(f3.trans fb4).keep g0 nE;have h4:=H.out.fr f4;have hPB:P<B:=by omega
 have hgB:g<B:=by omega
 have hBw:w.heap.size≤B:=by omega
 have hBT3:B<T3:=by have:=(f0.trans f3).size;have:=Aa g0;omega
 clear f0 f3 fb4;refine(may_no [108,101,116] P g c ts st t HT.out HB0.out x4 h4 HE.out).mono ?_;rintro e x4 ⟨rfl,f5⟩;go_wp2_with fail;have g0:=f5.keep g0 nE;have q3:=f5.keep q3 nE;have h4:=h4.fr f5;have f4:=f4.trans f5;have hs4:=f5.size;clear f5 hs4;have fa:=(Fr.refl [] x4).alloc (.cells #[.string ⟨[102,117,110].toArray⟩] 9);have ci:=fun cl=>Hz (Dx P g c ts st t HT.out x4.heap.size cl [[102,117,110]] (by simp) (x4.alloc (.cells #[.string ⟨[102,117,110].toArray⟩] 9)) (h4.fr fa) (Dc.one x4 [102,117,110] _) (by simp) HE.out)
 rw[HB1.out] at ci;go_wp2_with fail;refine(ci _).out.mono ?_;rintro e x4 ⟨rfl,f5⟩;go_wp2_with fail;have f5:=fa.trans f5;have g0:=f5.keep g0 nE;have q3:=f5.keep q3 nE;have h4:=h4.fr f5;have f4:=f4.trans f5;clear f5 fa ci;refine(may_no [109,97,116,99,104] P g c ts st t HT.out HB2.out x4 h4 HE.out).mono ?_;rintro e x4 ⟨rfl,f5⟩;go_wp2_with fail;have g0:=f5.keep g0 nE;have q3:=f5.keep q3 nE;have h4:=h4.fr f5;have f4:=f4.trans f5;have hs4:=f5.size;clear f5 hs4;refine(may_no [116,114,121] P g c ts st t HT.out HB3.out x4 h4 HE.out).mono ?_;rintro e x4 ⟨rfl,f5⟩;go_wp2_with fail;have g0:=f5.keep g0 nE;have q3:=f5.keep q3 nE;have h4:=h4.fr f5;have f4:=f4.trans f5;have hs4:=f5.size;clear f5 hs4;refine(may_yes [105,102] P g c ts st t HT.out HB4.out x4 h4 HE.out).mono ?_;rintro e x5 ⟨rfl,h0,f5⟩;have g0:=f5.keep g0 (by simpa using nB);have q3:=f5.keep q3 (by simp;omega);have F:Fr [P] w x5:=(f4.mono (fun x hx=>by cases hx)).trans f5;have hs5:=Aa g0;clear f4 f5 h4 hT4 hs3;obtain⟨m0,m1,m2,m3,_⟩:=Am q3;have cS:=fun W hW=>Hz (IH.out.seq P g c ⟨st.i+1,st.ok⟩ W hW (by have:=HN.out;have:=h0.inb;simp only at this ⊢;omega))
 have hT35:=Aa q3;go_wp2_with fail;refine Au (fun w'=>w'.cell? ⟨T3,1,none⟩=some (vI t.at')) (by kernel_rfl) (by kernel_rfl) ?hS1036 (fun K hK hHeld=>?hr1036)
 case hS1036=>go_keep
 refine Ae (i:=0) (v:=?v1037) rfl (by kernel_rfl) (by kernel_rfl) (by kernel_rfl) (fun _ _ _ h=>h) (Or.inl ⟨by rfl,?hy1037⟩) (by assumption) ?hr1037
 case hy1037 =>
  intro w' hSw
  (try dsimp only at hSw)
  go_simp
  (try with_reducible rfl)
 (try simp only[Act.put,sX])
 refine Ae (i:=1) (v:=?v1038) rfl (by kernel_rfl) (by kernel_rfl) (by kernel_rfl) (fun _ _ _ h=>h) (Or.inl ⟨by rfl,?hy1038⟩) (by assumption) ?hr1038
 case hy1038 =>
  intro w' hSw
  (try dsimp only at hSw)
  go_simp
  (try with_reducible rfl)
 (try simp only[Act.put,sX])
 refine Ae (i:=2) (v:=?v1039) rfl (by kernel_rfl) (by kernel_rfl) (by kernel_rfl) (fun _ _ _ h=>h) (Or.inl ⟨by rfl,?hy1039⟩) (by assumption) ?hr1039
 case hy1039 =>
  intro w' hSw
  (try dsimp only at hSw)
  go_simp
  (try with_reducible rfl)
 (try simp only[Act.put,sX])
 refine wpAnyH_ready (rs:=[3,6]) (by kernel_rfl) (by simp) (Ez (i:=3) rfl (fun K3 hK3=>?hA) (Ez (i:=6) rfl (fun K6 hK6=>?hB) AllReadyH.nil))
 case hA =>
  go_simp;refine(cS _ (h0.fr (Fr.refl [] x5).drew)).out.mono ?_;rintro e x6 ⟨k1,a1,nm1,n1,s1,ls1,args1,arms1,A51,n51,c51,A61,n61,c61,A71,n71,c71,st2,rfl,hx1,hr1,hst2,f6⟩;have Q6:=f6.keep (w:=x5.drew) q3 (by simp;omega);have hT6:=Aa Q6;have M6:=Am Q6;go_simp;refine hK3.out _ _ ?hS1048 (fun hHeld=>?hq1048)
  case hS1048=>exact M6.2.1
  clear hK3 K3
  (try simp only[Act.put,sX])
  refine wpAnyH_ready (rs:=[4,6]) (by kernel_rfl) (by simp) (Ez (i:=4) rfl (fun K4 hK4=>?hC) (Ez (i:=6) rfl (fun K6 hK6=>?hD) AllReadyH.nil))
  case hC =>
   go_simp;refine hK4.out _ _ ?hS1040 (fun hHeld=>?hq1040)
   case hS1040=>exact(Am (Ad Q6 _)).2.1
   clear hK4 K4
   (try simp only[Act.put,sX])
   refine Ae (i:=5) (v:=?v1041) rfl (by kernel_rfl) (by kernel_rfl) (by kernel_rfl) (fun _ _ _ h=>h) (Or.inl ⟨by rfl,?hy1041⟩) (by assumption) ?hr1041
   case hy1041 =>
    intro w' hSw
    (try dsimp only at hSw)
    go_simp
    (try with_reducible rfl)
   (try simp only[Act.put,sX])
   refine Ak (i:=6) rfl (by kernel_rfl) (fun K6 hK6=>?hr1042);go_simp;refine hK6.out _ _ ?hS1042 (fun hHeld=>?hq1042)
   case hS1042=>exact(Am (Ad (Ad Q6 _) _)).2.1
   clear hK6 K6
   (try simp only[Act.put,sX])
   refine wpAnyH_done (by kernel_rfl) ?hr1043 _;refine As rfl ?hq1043;go_simp;refine hK.out _ _ ?hs1043;clear hK K;have f6:Fr [P] x5 x6:=((Fr.refl [P] x5).drew).trans f6;have hs6:=f6.size;have hx1:=hx1.keep (ok':=fun b=>B<b∧¬ b=x6.heap.size+1∧¬ b=P) (Sh.of_fr (Fr.refl [] x6) (fun b hb hlt=>⟨by have:x5.heap.size≤b:=hb;exact⟨by omega,by omega,by omega⟩,fun x=>by cases x⟩));have hsz:(x6.alloc (.cells #[vI k1,vI a1,vS nm1,vI n1,vS s1,.slice A51 n51 c51,.slice A61 n61 c61,.slice A71 n71 c71] 27)).heap.size=x6.heap.size+1:=by simp
   have row:=Aj.lit Al (T:=27) (size:=8) (ok:=fun b=>B<b∧¬ b=x6.heap.size+1∧¬ b=P) hx1 rfl (by exact⟨by omega,by omega,by omega⟩);have row:=Aj.keep (ok':=fun b=>B<b∧¬ b=x6.heap.size+1∧¬ b=P) Al row (Sh.of_fr ((Fr.refl [] (x6.alloc (.cells #[vI k1,vI a1,vS nm1,vI n1,vS s1,.slice A51 n51 c51,.slice A61 n61 c61,.slice A71 n71 c71] 27))).alloc (.cells #[vI 11,vI t.at',vE,vI 0,vE,vZ,.slice (some ⟨x6.heap.size,0,none⟩) 1 1,vZ] 27)) (fun b hb hlt=>⟨hb,fun x=>by cases x⟩));have q0:=Ab (x6.alloc (.cells #[vI k1,vI a1,vS nm1,vI n1,vS s1,.slice A51 n51 c51,.slice A61 n61 c61,.slice A71 n71 c71] 27)) (.cells #[vI 11,vI t.at',vE,vI 0,vE,vZ,.slice (some ⟨x6.heap.size,0,none⟩) 1 1,vZ] 27);rw[hsz] at q0;have fbb:Fr [] x6 ((x6.alloc (.cells #[vI k1,vI a1,vS nm1,vI n1,vS s1,.slice A51 n51 c51,.slice A61 n61 c61,.slice A71 n71 c71] 27)).alloc (.cells #[vI 11,vI t.at',vE,vI 0,vE,vZ,.slice (some ⟨x6.heap.size,0,none⟩) 1 1,vZ] 27)):=((Fr.refl [] x6).alloc _).alloc _;have g0:=fbb.keep (f6.keep g0 (by simp;omega)) nE;have h0:=hst2.fr fbb;have F:=(F.trans f6).trans0 fbb;have hBT:B<x6.heap.size+1:=by omega
   clear hsz fbb f6 hx1 hst2 Q6 M6 q3 hT6 hs6 m0 m1 m2 m3 cS
   generalize (x6.alloc (.cells #[vI k1,vI a1,vS nm1,vI n1,vS s1,.slice A51 n51 c51,.slice A61 n61 c61,.slice A71 n71 c71] 27)).alloc (.cells #[vI 11,vI t.at',vE,vI 0,vE,vZ,.slice (some ⟨x6.heap.size,0,none⟩) 1 1,vZ] 27)=wz at *
   generalize x6.heap.size+1=T at *
   generalize x6.heap.size=gz at *
   go_wp2_with fail;obtain⟨p,hp⟩:=At h0.inb;refine(Bc [116,104,101,110] P g c ts st2 p hp wz h0 HE.out).mono ?_;rintro e y0 ⟨rfl,h0,fm⟩;have g0:=fm.keep g0 (by simp;omega);have q0:=fm.keep q0 (by simp;omega);have F:=F.trans fm;have row:=Aj.keep (ok':=fun b=>B<b∧¬ b=T∧¬ b=P) Al row (Sh.of_fr fm (fun b hb hlt=>⟨hb,by simp;exact hb.2.2⟩));clear fm;obtain⟨i0,hi,hz0,hz1,hz2⟩:=info_parts Ef;have HI:=Hz hi;have HZ0:=Hz hz0;have HZ1:=Hz hz1;have HZ2:=Hz hz2;clear hi hz0 hz1 hz2;have hle1:=hr1.le;simp only at hle1;have hle2:=B3 p st2 [116,104,101,110];have cS:=fun W hW=>Hz (IH.out.item P g c (A4 p st2 [116,104,101,110]) W hW (by have:=HN.out;have:=h0.inb;omega))
   obtain⟨⟨l0,l1,l2,l3,l4,l5,l6,l7⟩,_⟩:=Ac q0;have hTwr:=Aa q0;have ROWH:=Hz row;clear row;go_wp2_with fail;refine Au (fun w'=>w'.cell? ⟨T,6,none⟩=some (.slice (some ⟨gz,0,none⟩) 1 1)) (by kernel_rfl) (by kernel_rfl) ?hS1054_0 (fun K hK hHeld=>?hr1054_0)
   case hS1054_0=>go_keep
   refine Ae (i:=0) (v:=?v1055_0) rfl (by kernel_rfl) (by kernel_rfl) (by kernel_rfl) (fun _ _ _ h=>h) (Or.inl ⟨by rfl,?hy1055_0⟩) (by assumption) ?hr1055_0
   case hy1055_0 =>
    intro w' hSw
    (try dsimp only at hSw)
    go_simp
    (try with_reducible rfl)
   (try simp only[Act.put,sX])
   refine Ae (i:=1) (v:=?v1056_0) rfl (by kernel_rfl) (by kernel_rfl) (by kernel_rfl) (fun _ _ _ h=>h) (Or.inl ⟨by rfl,?hy1056_0⟩) (by assumption) ?hr1056_0
   case hy1056_0 =>
    intro w' hSw
    (try dsimp only at hSw)
    go_simp
    (try with_reducible rfl)
   (try simp only[Act.put,sX])
   refine Ae (i:=2) (v:=?v1057_0) rfl (by kernel_rfl) (by kernel_rfl) (by kernel_rfl) (fun _ _ _ h=>h) (Or.inl ⟨by rfl,?hy1057_0⟩) (by assumption) ?hr1057_0
   case hy1057_0 =>
    intro w' hSw
    (try dsimp only at hSw)
    go_simp
    (try with_reducible rfl)
   (try simp only[Act.put,sX])
   refine Ak (i:=3) rfl (by kernel_rfl) (fun K3 hK3=>?hr1058_0);go_simp;refine((cS _ (h0.fr (Fr.refl [] y0).drew)).out).mono ?_;rintro e x8 ⟨k2,a2,nm2,n2,s2,ls2,args2,arms2,A52,n52,c52,A62,n62,c62,A72,n72,c72,st5,rfl,hx2,hr2,hst5,f8⟩;have hst:=hst5;have Q8:=f8.keep (w:=y0.drew) q0 (by simp;omega);have hT8:=Aa Q8;have ROW9:=Aj.keep (w':=x8.alloc (.cells #[vI k2,vI a2,vS nm2,vI n2,vS s2,.slice A52 n52 c52,.slice A62 n62 c62,.slice A72 n72 c72] 27)) (ok':=fun b=>B<b∧¬ b=T∧¬ b=P) Al ROWH.out (Sh.of_fr (((Fr.refl [P] y0).drew.trans f8).alloc _) (fun b hb hlt=>⟨hb,by simp;exact hb.2.2⟩));go_simp;refine hK3.out _ _ ?hS1058_0 (fun hHeld=>?hq1058_0)
   case hS1058_0=>exact(Ac Q8).1.2.2.2.2.2.2.1
   clear hK3 K3
   (try simp only[Act.put,sX])
   refine Ak (i:=4) rfl (by kernel_rfl) (fun K4 hK4=>?hr1059_0);go_simp;refine hK4.out _ _ ?hS1059_0 (fun hHeld=>?hq1059_0)
   case hS1059_0=>exact Af (Ad Q8 _) 6
   clear hK4 K4
   (try simp only[Act.put,sX])
   refine Ak (i:=5) rfl (by kernel_rfl) (fun K5 hK5=>?hr1060_0);refine Az (by rfl) _ _ 24 (by rfl) 27 i0 _ 8 128 underlying24 HI.out HZ0.out HZ1.out HZ2.out rfl (by decide) (.slice (some ⟨gz,0,none⟩) 1 1) 1 (Cc (fun _=>[vI k1,vI a1,vS nm1,vI n1,vS s1,.slice A51 n51 c51,.slice A61 n61 c61,.slice A71 n71 c71]) 1) (by rfl) ROW9.own ⟨x8.heap.size,0,none⟩ 1 1 [vI k2,vI a2,vS nm2,vI n2,vS s2,.slice A52 n52 c52,.slice A62 n62 c62,.slice A72 n72 c72] (by rfl) rfl (World.news_of_block (Ab x8 _)) (by simp[Value.oneCell']) (by decide) (by decide) ?_;intro v9 w9 hown9 hgrow9 hfp9;obtain⟨g9,cp9,hv9⟩:∃ g cap,v9 = .slice (some ⟨g,0,none⟩) (2) cap:=B9 hown9
   subst hv9;have Q9:=(hgrow9.block T (Aa (Ad Q8 (.cells #[vI k2,vI a2,vS nm2,vI n2,vS s2,.slice A52 n52 c52,.slice A62 n62 c62,.slice A72 n72 c72] 27))) (fun e=>(ROWH.out.blk T e.symm).2.1 rfl)).trans (Ad Q8 (.cells #[vI k2,vI a2,vS nm2,vI n2,vS s2,.slice A52 n52 c52,.slice A62 n62 c62,.slice A72 n72 c72] 27));have hT9:=Aa Q9;obtain⟨⟨u0,u1,u2,u3,u4,u5,u6,u7⟩,z0,z1,z2,z3,z4,z5,z6,z7⟩:=Ac Q9;refine hK5.out _ _ ?hS1060_0 (fun hHeld=>?hq1060_0)
   case hS1060_0=>exact u6
   clear hK5 K5
   (try simp only[Act.put,sX])
   refine Ae (i:=6) (v:=?v1061_0) rfl (by kernel_rfl) (by kernel_rfl) (by kernel_rfl) (fun _ _ _ h=>h) (Or.inl ⟨by rfl,?hy1061_0⟩) (by assumption) ?hr1061_0
   case hy1061_0 =>
    intro w' hSw
    (try dsimp only at hSw)
    go_simp
    (try with_reducible rfl)
   (try simp only[Act.put,sX])
   refine wpAnyH_done (by kernel_rfl) ?hr1062_0 _;refine As rfl ?hq1062_0;go_simp;refine hK.out _ _ ?hs1062_0;clear hK K;clear l0 l1 l2 l3 l4 l5 l6 l7 u0 u1 u2 u3 u4 u5 u6 u7 z0 z1 z2 z3 z4 z5 z6 z7;have f8:Fr [P] y0 x8:=((Fr.refl [P] y0).drew).trans f8;have row:=ROWH.out;obtain⟨F,g0,q0,h0,row,hsh,hnew,hsz⟩:=Ct (fld:=6) (size:=8) Al f8 hx2 rfl hst g0 q0 row F (by omega) (by omega) (by omega) (by omega) (by omega) (by omega) (by omega) hown9 hgrow9 hfp9 (VV':=#[vI 11,vI t.at',vE,vI 0,vE,vZ,.slice (some ⟨g9,0,none⟩) 2 cp9,vZ]) rfl;clear ROWH ROW9 Q8 Q9 hown9 hgrow9 hfp9 f8 hst hT8 hT9 hTwr
   generalize w9.setCell ⟨T,6,none⟩ (.slice (some ⟨g9,0,none⟩) 2 cp9)=y1 at *
   clear hsh hnew hsz cS;go_wp2_with fail;obtain⟨q,hq⟩:=At h0.inb;refine(Bc [101,108,115,101] P g c ts st5 q hq y1 h0 HE.out).mono ?_;rintro e y2 ⟨rfl,h0,fm⟩;have g0:=fm.keep g0 (by simp;omega);have q0:=fm.keep q0 (by simp;omega);have F:=F.trans fm;have row:=Aj.keep (ok':=fun b=>B<b∧¬ b=T∧¬ b=P) Al row (Sh.of_fr fm (fun b hb hlt=>⟨hb,by simp;exact hb.2.2⟩));clear fm;have hle3:=hr2.le;have hle4:=B3 q st5 [101,108,115,101];have cS:=fun W hW=>Hz (IH.out.item P g c (A4 q st5 [101,108,115,101]) W hW (by have:=HN.out;have:=h0.inb;omega))
   obtain⟨⟨l0,l1,l2,l3,l4,l5,l6,l7⟩,_⟩:=Ac q0;have hTwr:=Aa q0;have ROWH:=Hz row;clear row;go_wp2_with fail;refine Au (fun w'=>w'.cell? ⟨T,6,none⟩=some (.slice (some ⟨g9,0,none⟩) 2 cp9)) (by kernel_rfl) (by kernel_rfl) ?hS1063_0 (fun K hK hHeld=>?hr1063_0)
   case hS1063_0=>go_keep
   refine Ae (i:=0) (v:=?v1064_0) rfl (by kernel_rfl) (by kernel_rfl) (by kernel_rfl) (fun _ _ _ h=>h) (Or.inl ⟨by rfl,?hy1064_0⟩) (by assumption) ?hr1064_0
   case hy1064_0 =>
    intro w' hSw
    (try dsimp only at hSw)
    go_simp
    (try with_reducible rfl)
   (try simp only[Act.put,sX])
   refine Ae (i:=1) (v:=?v1065_0) rfl (by kernel_rfl) (by kernel_rfl) (by kernel_rfl) (fun _ _ _ h=>h) (Or.inl ⟨by rfl,?hy1065_0⟩) (by assumption) ?hr1065_0
   case hy1065_0 =>
    intro w' hSw
    (try dsimp only at hSw)
    go_simp
    (try with_reducible rfl)
   (try simp only[Act.put,sX])
   refine Ae (i:=2) (v:=?v1066_0) rfl (by kernel_rfl) (by kernel_rfl) (by kernel_rfl) (fun _ _ _ h=>h) (Or.inl ⟨by rfl,?hy1066_0⟩) (by assumption) ?hr1066_0
   case hy1066_0 =>
    intro w' hSw
    (try dsimp only at hSw)
    go_simp
    (try with_reducible rfl)
   (try simp only[Act.put,sX])
   refine Ak (i:=3) rfl (by kernel_rfl) (fun K3 hK3=>?hr1067_0);go_simp;refine((cS _ (h0.fr (Fr.refl [] y2).drew)).out).mono ?_;rintro e x8 ⟨k3,a3,nm3,n3,s3,ls3,args3,arms3,A53,n53,c53,A63,n63,c63,A73,n73,c73,st7,rfl,hx3,hr3,hst7,f8⟩;have hst:=hst7;have Q8:=f8.keep (w:=y2.drew) q0 (by simp;omega);have hT8:=Aa Q8;have ROW9:=Aj.keep (w':=x8.alloc (.cells #[vI k3,vI a3,vS nm3,vI n3,vS s3,.slice A53 n53 c53,.slice A63 n63 c63,.slice A73 n73 c73] 27)) (ok':=fun b=>B<b∧¬ b=T∧¬ b=P) Al ROWH.out (Sh.of_fr (((Fr.refl [P] y2).drew.trans f8).alloc _) (fun b hb hlt=>⟨hb,by simp;exact hb.2.2⟩));go_simp;refine hK3.out _ _ ?hS1067_0 (fun hHeld=>?hq1067_0)
   case hS1067_0=>exact(Ac Q8).1.2.2.2.2.2.2.1
   clear hK3 K3
   (try simp only[Act.put,sX])
   refine Ak (i:=4) rfl (by kernel_rfl) (fun K4 hK4=>?hr1068_0);go_simp;refine hK4.out _ _ ?hS1068_0 (fun hHeld=>?hq1068_0)
   case hS1068_0=>exact Af (Ad Q8 _) 6
   clear hK4 K4
   (try simp only[Act.put,sX])
   refine Ak (i:=5) rfl (by kernel_rfl) (fun K5 hK5=>?hr1069_0);refine Az (by rfl) _ _ 24 (by rfl) 27 i0 _ 8 128 underlying24 HI.out HZ0.out HZ1.out HZ2.out rfl (by decide) (.slice (some ⟨g9,0,none⟩) 2 cp9) 2 (Cc (fun i=>if i=[(.mk k1 a1 nm1 n1 s1 ls1 args1 arms1)].length then [vI k2,vI a2,vS nm2,vI n2,vS s2,.slice A52 n52 c52,.slice A62 n62 c62,.slice A72 n72 c72] else [vI k1,vI a1,vS nm1,vI n1,vS s1,.slice A51 n51 c51,.slice A61 n61 c61,.slice A71 n71 c71]) 2) (by rfl) ROW9.own ⟨x8.heap.size,0,none⟩ 1 1 [vI k3,vI a3,vS nm3,vI n3,vS s3,.slice A53 n53 c53,.slice A63 n63 c63,.slice A73 n73 c73] (by rfl) rfl (World.news_of_block (Ab x8 _)) (by simp[Value.oneCell']) (by decide) (by decide) ?_;intro v9 w9 hown9 hgrow9 hfp9;obtain⟨g8,cp8,hv9⟩:∃ g cap,v9 = .slice (some ⟨g,0,none⟩) (3) cap:=B9 hown9
   subst hv9;have Q9:=(hgrow9.block T (Aa (Ad Q8 (.cells #[vI k3,vI a3,vS nm3,vI n3,vS s3,.slice A53 n53 c53,.slice A63 n63 c63,.slice A73 n73 c73] 27))) (fun e=>(ROWH.out.blk T e.symm).2.1 rfl)).trans (Ad Q8 (.cells #[vI k3,vI a3,vS nm3,vI n3,vS s3,.slice A53 n53 c53,.slice A63 n63 c63,.slice A73 n73 c73] 27));have hT9:=Aa Q9;obtain⟨⟨u0,u1,u2,u3,u4,u5,u6,u7⟩,z0,z1,z2,z3,z4,z5,z6,z7⟩:=Ac Q9;refine hK5.out _ _ ?hS1069_0 (fun hHeld=>?hq1069_0)
   case hS1069_0=>exact u6
   clear hK5 K5
   (try simp only[Act.put,sX])
   refine Ae (i:=6) (v:=?v1070_0) rfl (by kernel_rfl) (by kernel_rfl) (by kernel_rfl) (fun _ _ _ h=>h) (Or.inl ⟨by rfl,?hy1070_0⟩) (by assumption) ?hr1070_0
   case hy1070_0 =>
    intro w' hSw
    (try dsimp only at hSw)
    go_simp
    (try with_reducible rfl)
   (try simp only[Act.put,sX])
   refine wpAnyH_done (by kernel_rfl) ?hr1071_0 _;refine As rfl ?hq1071_0;go_simp;refine hK.out _ _ ?hs1071_0;clear hK K;clear l0 l1 l2 l3 l4 l5 l6 l7 u0 u1 u2 u3 u4 u5 u6 u7 z0 z1 z2 z3 z4 z5 z6 z7;have f8:Fr [P] y2 x8:=((Fr.refl [P] y2).drew).trans f8;have row:=ROWH.out;obtain⟨F,g0,q0,h0,row,hsh,hnew,hsz⟩:=Ct (fld:=6) (size:=8) Al f8 hx3 rfl hst g0 q0 row F (by omega) (by omega) (by omega) (by omega) (by omega) (by omega) (by omega) hown9 hgrow9 hfp9 (VV':=#[vI 11,vI t.at',vE,vI 0,vE,vZ,.slice (some ⟨g8,0,none⟩) 3 cp8,vZ]) rfl;clear ROWH ROW9 Q8 Q9 hown9 hgrow9 hfp9 f8 hst hT8 hT9 hTwr
   generalize w9.setCell ⟨T,6,none⟩ (.slice (some ⟨g8,0,none⟩) 3 cp8)=y3 at *
   clear hsh hnew hsz cS;have hBT2:=Aa g0;have row0:=Aj.keep (ok':=fun b=>B<b) Al row (Sh.of_fr (Fr.refl [] y3) (fun b hb hlt=>⟨hb.1,fun x=>by cases x⟩));obtain⟨⟨l0,l1,l2,l3,l4,l5,l6,l7⟩,_⟩:=Ac q0;obtain⟨⟨u0,u1,u2,u3,u4,u5,u6,u7⟩,z0,z1,z2,z3,z4,z5,z6,z7⟩:=Ac g0;clear row;have HG:=Hz (An g0 (vI 11) (vI t.at') (vE) (vI 0) (vE) (vZ) (.slice (some ⟨g8,0,none⟩) 3 cp8) (vZ));have HF:=Hz ((F).step (Ag y3 B (vI 11) (vI t.at') (vE) (vI 0) (vE) (vZ) (.slice (some ⟨g8,0,none⟩) 3 cp8) (vZ)) (fun x hx => .inr (by simp at hx;omega)));have HP:=Hz ((h0).frL (Ag y3 B (vI 11) (vI t.at') (vE) (vI 0) (vE) (vZ) (.slice (some ⟨g8,0,none⟩) 3 cp8) (vZ)) (by simpa using nP) (by simpa using ng));have HR:=Hz (Aj.keep (ok':=fun b=>B≤b) Al row0 (Sh.of_fr (Ag y3 B (vI 11) (vI t.at') (vE) (vI 0) (vE) (vZ) (.slice (some ⟨g8,0,none⟩) 3 cp8) (vZ)) (fun b hb hlt=>⟨by omega,by simp;omega⟩)));unfold st8 at HG HF HP HR;go_wp2_with fail;generalize (((((((y3.setCell ⟨B,0,none⟩ (vI 11)).setCell ⟨B,1,none⟩ (vI t.at')).setCell ⟨B,2,none⟩ (vE)).setCell ⟨B,3,none⟩ (vI 0)).setCell ⟨B,4,none⟩ (vE)).setCell ⟨B,5,none⟩ (vZ)).setCell ⟨B,6,none⟩ (.slice (some ⟨g8,0,none⟩) 3 cp8)).setCell ⟨B,7,none⟩ (vZ)=Z at HG HF HP HR ⊢;obtain⟨⟨d0,d1,d2,d3,d4,d5,d6,d7⟩,_⟩:=Ac HG.out;have hxx:=Ai.of_rows (k:=11) (a:=t.at') (nm:=[]) (n:=0) (s:=[]) (c5:=fun _=>[]) (c7:=fun _=>[]) Aj.nil_ HR.out Aj.nil_;refine bodyPost_ret (v:=.agg #[vI 11,vI t.at',vE,vI 0,vE,vZ,.slice (some ⟨g8,0,none⟩) 3 cp8,vZ]) ?_ rfl ?_
   ·simp[results,Tryz.f33,go_sem,d0,d1,d2,d3,d4,d5,d6,d7]
   ·exact⟨_,_,_,_,_,_,_,_,_,_,_,_,_,_,_,_,_,_,rfl,by rw[hB];exact hxx,.look HT.out (.may_no HT.out HB0.out (.els (.isC_ HT.out HB1.out (.els (.may_no HT.out HB2.out (.els (.may_no HT.out HB3.out (.els (.may_yes HT.out HB4.out (.thn (.callE hr1 (.must_ hp (.callE hr2 (.must_ hq (.callE hr3 .retE))))))))))))))),HP.out,HF.out⟩
  case hD =>
   go_simp;refine hK6.out _ _ ?hS1044 (fun hHeld=>?hq1044)
   case hS1044=>exact(Am (Ad Q6 _)).2.1
   clear hK6 K6
   (try simp only[Act.put,sX])
   refine Ak (i:=4) rfl (by kernel_rfl) (fun K4 hK4=>?hr1045);go_simp;refine hK4.out _ _ ?hS1045 (fun hHeld=>?hq1045)
   case hS1045=>exact(Am (Ad (Ad Q6 _) _)).2.1
   clear hK4 K4
   (try simp only[Act.put,sX])
   refine Ae (i:=5) (v:=?v1046) rfl (by kernel_rfl) (by kernel_rfl) (by kernel_rfl) (fun _ _ _ h=>h) (Or.inl ⟨by rfl,?hy1046⟩) (by assumption) ?hr1046
   case hy1046 =>
    intro w' hSw
    (try dsimp only at hSw)
    go_simp
    (try with_reducible rfl)
   (try simp only[Act.put,sX])
   refine wpAnyH_done (by kernel_rfl) ?hr1047 _;refine As rfl ?hq1047;go_simp;refine hK.out _ _ ?hs1047;clear hK K;have f6:Fr [P] x5 x6:=((Fr.refl [P] x5).drew).trans f6;have hs6:=f6.size;have hx1:=hx1.keep (ok':=fun b=>B<b∧¬ b=x6.heap.size∧¬ b=P) (Sh.of_fr (Fr.refl [] x6) (fun b hb hlt=>⟨by have:x5.heap.size≤b:=hb;exact⟨by omega,by omega,by omega⟩,fun x=>by cases x⟩));have hsz:(x6.alloc (.cells #[vI 11,vI t.at',vE,vI 0,vE,vZ,.slice (some ⟨x6.heap.size+1,0,none⟩) 1 1,vZ] 27)).heap.size=x6.heap.size+1:=by simp
   have fe:=(Fr.refl [] x6).alloc (.cells #[vI 11,vI t.at',vE,vI 0,vE,vZ,.slice (some ⟨x6.heap.size+1,0,none⟩) 1 1,vZ] 27);have hx1:=hx1.keep (ok':=fun b=>B<b∧¬ b=x6.heap.size∧¬ b=P) (Sh.of_fr fe (fun b hb hlt=>⟨hb,fun x=>by cases x⟩));have row:=Aj.lit Al (T:=27) (size:=8) (ok:=fun b=>B<b∧¬ b=x6.heap.size∧¬ b=P) hx1 rfl (by rw[hsz];exact⟨by omega,by omega,by omega⟩);have q0:=Ad (Ab x6 (.cells #[vI 11,vI t.at',vE,vI 0,vE,vZ,.slice (some ⟨x6.heap.size+1,0,none⟩) 1 1,vZ] 27)) (.cells #[vI k1,vI a1,vS nm1,vI n1,vS s1,.slice A51 n51 c51,.slice A61 n61 c61,.slice A71 n71 c71] 27);have fbb:Fr [] x6 ((x6.alloc (.cells #[vI 11,vI t.at',vE,vI 0,vE,vZ,.slice (some ⟨x6.heap.size+1,0,none⟩) 1 1,vZ] 27)).alloc (.cells #[vI k1,vI a1,vS nm1,vI n1,vS s1,.slice A51 n51 c51,.slice A61 n61 c61,.slice A71 n71 c71] 27)):=((Fr.refl [] x6).alloc _).alloc _;have g0:=fbb.keep (f6.keep g0 (by simp;omega)) nE;have h0:=hst2.fr fbb;have F:=(F.trans f6).trans0 fbb;have hBT:B<x6.heap.size:=by omega
   rw[hsz] at row;clear hsz fbb fe f6 hx1 hst2 Q6 M6 q3 hT6 hs6 m0 m1 m2 m3 cS
   generalize (x6.alloc (.cells #[vI 11,vI t.at',vE,vI 0,vE,vZ,.slice (some ⟨x6.heap.size+1,0,none⟩) 1 1,vZ] 27)).alloc (.cells #[vI k1,vI a1,vS nm1,vI n1,vS s1,.slice A51 n51 c51,.slice A61 n61 c61,.slice A71 n71 c71] 27)=wz at *
   generalize x6.heap.size+1=gz at *
   generalize x6.heap.size=T at *
   go_wp2_with fail;obtain⟨p,hp⟩:=At h0.inb;refine(Bc [116,104,101,110] P g c ts st2 p hp wz h0 HE.out).mono ?_;rintro e y0 ⟨rfl,h0,fm⟩;have g0:=fm.keep g0 (by simp;omega);have q0:=fm.keep q0 (by simp;omega);have F:=F.trans fm;have row:=Aj.keep (ok':=fun b=>B<b∧¬ b=T∧¬ b=P) Al row (Sh.of_fr fm (fun b hb hlt=>⟨hb,by simp;exact hb.2.2⟩));clear fm;obtain⟨i0,hi,hz0,hz1,hz2⟩:=info_parts Ef;have HI:=Hz hi;have HZ0:=Hz hz0;have HZ1:=Hz hz1;have HZ2:=Hz hz2;clear hi hz0 hz1 hz2;have hle1:=hr1.le;simp only at hle1;have hle2:=B3 p st2 [116,104,101,110];have cS:=fun W hW=>Hz (IH.out.item P g c (A4 p st2 [116,104,101,110]) W hW (by have:=HN.out;have:=h0.inb;omega))
   obtain⟨⟨l0,l1,l2,l3,l4,l5,l6,l7⟩,_⟩:=Ac q0;have hTwr:=Aa q0;have ROWH:=Hz row;clear row;go_wp2_with fail;refine Au (fun w'=>w'.cell? ⟨T,6,none⟩=some (.slice (some ⟨gz,0,none⟩) 1 1)) (by kernel_rfl) (by kernel_rfl) ?hS1054_1 (fun K hK hHeld=>?hr1054_1)
   case hS1054_1=>go_keep
   refine Ae (i:=0) (v:=?v1055_1) rfl (by kernel_rfl) (by kernel_rfl) (by kernel_rfl) (fun _ _ _ h=>h) (Or.inl ⟨by rfl,?hy1055_1⟩) (by assumption) ?hr1055_1
   case hy1055_1 =>
    intro w' hSw
    (try dsimp only at hSw)
    go_simp
    (try with_reducible rfl)
   (try simp only[Act.put,sX])
   refine Ae (i:=1) (v:=?v1056_1) rfl (by kernel_rfl) (by kernel_rfl) (by kernel_rfl) (fun _ _ _ h=>h) (Or.inl ⟨by rfl,?hy1056_1⟩) (by assumption) ?hr1056_1
   case hy1056_1 =>
    intro w' hSw
    (try dsimp only at hSw)
    go_simp
    (try with_reducible rfl)
   (try simp only[Act.put,sX])
   refine Ae (i:=2) (v:=?v1057_1) rfl (by kernel_rfl) (by kernel_rfl) (by kernel_rfl) (fun _ _ _ h=>h) (Or.inl ⟨by rfl,?hy1057_1⟩) (by assumption) ?hr1057_1
   case hy1057_1 =>
    intro w' hSw
    (try dsimp only at hSw)
    go_simp
    (try with_reducible rfl)
   (try simp only[Act.put,sX])
   refine Ak (i:=3) rfl (by kernel_rfl) (fun K3 hK3=>?hr1058_1);go_simp;refine((cS _ (h0.fr (Fr.refl [] y0).drew)).out).mono ?_;rintro e x8 ⟨k2,a2,nm2,n2,s2,ls2,args2,arms2,A52,n52,c52,A62,n62,c62,A72,n72,c72,st5,rfl,hx2,hr2,hst5,f8⟩;have hst:=hst5;have Q8:=f8.keep (w:=y0.drew) q0 (by simp;omega);have hT8:=Aa Q8;have ROW9:=Aj.keep (w':=x8.alloc (.cells #[vI k2,vI a2,vS nm2,vI n2,vS s2,.slice A52 n52 c52,.slice A62 n62 c62,.slice A72 n72 c72] 27)) (ok':=fun b=>B<b∧¬ b=T∧¬ b=P) Al ROWH.out (Sh.of_fr (((Fr.refl [P] y0).drew.trans f8).alloc _) (fun b hb hlt=>⟨hb,by simp;exact hb.2.2⟩));go_simp;refine hK3.out _ _ ?hS1058_1 (fun hHeld=>?hq1058_1)
   case hS1058_1=>exact(Ac Q8).1.2.2.2.2.2.2.1
   clear hK3 K3
   (try simp only[Act.put,sX])
   refine Ak (i:=4) rfl (by kernel_rfl) (fun K4 hK4=>?hr1059_1);go_simp;refine hK4.out _ _ ?hS1059_1 (fun hHeld=>?hq1059_1)
   case hS1059_1=>exact Af (Ad Q8 _) 6
   clear hK4 K4
   (try simp only[Act.put,sX])
   refine Ak (i:=5) rfl (by kernel_rfl) (fun K5 hK5=>?hr1060_1);refine Az (by rfl) _ _ 24 (by rfl) 27 i0 _ 8 128 underlying24 HI.out HZ0.out HZ1.out HZ2.out rfl (by decide) (.slice (some ⟨gz,0,none⟩) 1 1) 1 (Cc (fun _=>[vI k1,vI a1,vS nm1,vI n1,vS s1,.slice A51 n51 c51,.slice A61 n61 c61,.slice A71 n71 c71]) 1) (by rfl) ROW9.own ⟨x8.heap.size,0,none⟩ 1 1 [vI k2,vI a2,vS nm2,vI n2,vS s2,.slice A52 n52 c52,.slice A62 n62 c62,.slice A72 n72 c72] (by rfl) rfl (World.news_of_block (Ab x8 _)) (by simp[Value.oneCell']) (by decide) (by decide) ?_;intro v9 w9 hown9 hgrow9 hfp9;obtain⟨g9,cp9,hv9⟩:∃ g cap,v9 = .slice (some ⟨g,0,none⟩) (2) cap:=B9 hown9
   subst hv9;have Q9:=(hgrow9.block T (Aa (Ad Q8 (.cells #[vI k2,vI a2,vS nm2,vI n2,vS s2,.slice A52 n52 c52,.slice A62 n62 c62,.slice A72 n72 c72] 27))) (fun e=>(ROWH.out.blk T e.symm).2.1 rfl)).trans (Ad Q8 (.cells #[vI k2,vI a2,vS nm2,vI n2,vS s2,.slice A52 n52 c52,.slice A62 n62 c62,.slice A72 n72 c72] 27));have hT9:=Aa Q9;obtain⟨⟨u0,u1,u2,u3,u4,u5,u6,u7⟩,z0,z1,z2,z3,z4,z5,z6,z7⟩:=Ac Q9;refine hK5.out _ _ ?hS1060_1 (fun hHeld=>?hq1060_1)
   case hS1060_1=>exact u6
   clear hK5 K5
   (try simp only[Act.put,sX])
   refine Ae (i:=6) (v:=?v1061_1) rfl (by kernel_rfl) (by kernel_rfl) (by kernel_rfl) (fun _ _ _ h=>h) (Or.inl ⟨by rfl,?hy1061_1⟩) (by assumption) ?hr1061_1
   case hy1061_1 =>
    intro w' hSw
    (try dsimp only at hSw)
    go_simp
    (try with_reducible rfl)
   (try simp only[Act.put,sX])
   refine wpAnyH_done (by kernel_rfl) ?hr1062_1 _;refine As rfl ?hq1062_1;go_simp;refine hK.out _ _ ?hs1062_1;clear hK K;clear l0 l1 l2 l3 l4 l5 l6 l7 u0 u1 u2 u3 u4 u5 u6 u7 z0 z1 z2 z3 z4 z5 z6 z7;have f8:Fr [P] y0 x8:=((Fr.refl [P] y0).drew).trans f8;have row:=ROWH.out;obtain⟨F,g0,q0,h0,row,hsh,hnew,hsz⟩:=Ct (fld:=6) (size:=8) Al f8 hx2 rfl hst g0 q0 row F (by omega) (by omega) (by omega) (by omega) (by omega) (by omega) (by omega) hown9 hgrow9 hfp9 (VV':=#[vI 11,vI t.at',vE,vI 0,vE,vZ,.slice (some ⟨g9,0,none⟩) 2 cp9,vZ]) rfl;clear ROWH ROW9 Q8 Q9 hown9 hgrow9 hfp9 f8 hst hT8 hT9 hTwr
   generalize w9.setCell ⟨T,6,none⟩ (.slice (some ⟨g9,0,none⟩) 2 cp9)=y1 at *
   clear hsh hnew hsz cS;go_wp2_with fail;obtain⟨q,hq⟩:=At h0.inb;refine(Bc [101,108,115,101] P g c ts st5 q hq y1 h0 HE.out).mono ?_;rintro e y2 ⟨rfl,h0,fm⟩;have g0:=fm.keep g0 (by simp;omega);have q0:=fm.keep q0 (by simp;omega);have F:=F.trans fm;have row:=Aj.keep (ok':=fun b=>B<b∧¬ b=T∧¬ b=P) Al row (Sh.of_fr fm (fun b hb hlt=>⟨hb,by simp;exact hb.2.2⟩));clear fm;have hle3:=hr2.le;have hle4:=B3 q st5 [101,108,115,101];have cS:=fun W hW=>Hz (IH.out.item P g c (A4 q st5 [101,108,115,101]) W hW (by have:=HN.out;have:=h0.inb;omega))
   obtain⟨⟨l0,l1,l2,l3,l4,l5,l6,l7⟩,_⟩:=Ac q0;have hTwr:=Aa q0;have ROWH:=Hz row;clear row;go_wp2_with fail;refine Au (fun w'=>w'.cell? ⟨T,6,none⟩=some (.slice (some ⟨g9,0,none⟩) 2 cp9)) (by kernel_rfl) (by kernel_rfl) ?hS1063_1 (fun K hK hHeld=>?hr1063_1)
   case hS1063_1=>go_keep
   refine Ae (i:=0) (v:=?v1064_1) rfl (by kernel_rfl) (by kernel_rfl) (by kernel_rfl) (fun _ _ _ h=>h) (Or.inl ⟨by rfl,?hy1064_1⟩) (by assumption) ?hr1064_1
   case hy1064_1 =>
    intro w' hSw
    (try dsimp only at hSw)
    go_simp
    (try with_reducible rfl)
   (try simp only[Act.put,sX])
   refine Ae (i:=1) (v:=?v1065_1) rfl (by kernel_rfl) (by kernel_rfl) (by kernel_rfl) (fun _ _ _ h=>h) (Or.inl ⟨by rfl,?hy1065_1⟩) (by assumption) ?hr1065_1
   case hy1065_1 =>
    intro w' hSw
    (try dsimp only at hSw)
    go_simp
    (try with_reducible rfl)
   (try simp only[Act.put,sX])
   refine Ae (i:=2) (v:=?v1066_1) rfl (by kernel_rfl) (by kernel_rfl) (by kernel_rfl) (fun _ _ _ h=>h) (Or.inl ⟨by rfl,?hy1066_1⟩) (by assumption) ?hr1066_1
   case hy1066_1 =>
    intro w' hSw
    (try dsimp only at hSw)
    go_simp
    (try with_reducible rfl)
   (try simp only[Act.put,sX])
   refine Ak (i:=3) rfl (by kernel_rfl) (fun K3 hK3=>?hr1067_1);go_simp;refine((cS _ (h0.fr (Fr.refl [] y2).drew)).out).mono ?_;rintro e x8 ⟨k3,a3,nm3,n3,s3,ls3,args3,arms3,A53,n53,c53,A63,n63,c63,A73,n73,c73,st7,rfl,hx3,hr3,hst7,f8⟩;have hst:=hst7;have Q8:=f8.keep (w:=y2.drew) q0 (by simp;omega);have hT8:=Aa Q8;have ROW9:=Aj.keep (w':=x8.alloc (.cells #[vI k3,vI a3,vS nm3,vI n3,vS s3,.slice A53 n53 c53,.slice A63 n63 c63,.slice A73 n73 c73] 27)) (ok':=fun b=>B<b∧¬ b=T∧¬ b=P) Al ROWH.out (Sh.of_fr (((Fr.refl [P] y2).drew.trans f8).alloc _) (fun b hb hlt=>⟨hb,by simp;exact hb.2.2⟩));go_simp;refine hK3.out _ _ ?hS1067_1 (fun hHeld=>?hq1067_1)
   case hS1067_1=>exact(Ac Q8).1.2.2.2.2.2.2.1
   clear hK3 K3
   (try simp only[Act.put,sX])
   refine Ak (i:=4) rfl (by kernel_rfl) (fun K4 hK4=>?hr1068_1);go_simp;refine hK4.out _ _ ?hS1068_1 (fun hHeld=>?hq1068_1)
   case hS1068_1=>exact Af (Ad Q8 _) 6
   clear hK4 K4
   (try simp only[Act.put,sX])
   refine Ak (i:=5) rfl (by kernel_rfl) (fun K5 hK5=>?hr1069_1);refine Az (by rfl) _ _ 24 (by rfl) 27 i0 _ 8 128 underlying24 HI.out HZ0.out HZ1.out HZ2.out rfl (by decide) (.slice (some ⟨g9,0,none⟩) 2 cp9) 2 (Cc (fun i=>if i=[(.mk k1 a1 nm1 n1 s1 ls1 args1 arms1)].length then [vI k2,vI a2,vS nm2,vI n2,vS s2,.slice A52 n52 c52,.slice A62 n62 c62,.slice A72 n72 c72] else [vI k1,vI a1,vS nm1,vI n1,vS s1,.slice A51 n51 c51,.slice A61 n61 c61,.slice A71 n71 c71]) 2) (by rfl) ROW9.own ⟨x8.heap.size,0,none⟩ 1 1 [vI k3,vI a3,vS nm3,vI n3,vS s3,.slice A53 n53 c53,.slice A63 n63 c63,.slice A73 n73 c73] (by rfl) rfl (World.news_of_block (Ab x8 _)) (by simp[Value.oneCell']) (by decide) (by decide) ?_;intro v9 w9 hown9 hgrow9 hfp9;obtain⟨g8,cp8,hv9⟩:∃ g cap,v9 = .slice (some ⟨g,0,none⟩) (3) cap:=B9 hown9
   subst hv9;have Q9:=(hgrow9.block T (Aa (Ad Q8 (.cells #[vI k3,vI a3,vS nm3,vI n3,vS s3,.slice A53 n53 c53,.slice A63 n63 c63,.slice A73 n73 c73] 27))) (fun e=>(ROWH.out.blk T e.symm).2.1 rfl)).trans (Ad Q8 (.cells #[vI k3,vI a3,vS nm3,vI n3,vS s3,.slice A53 n53 c53,.slice A63 n63 c63,.slice A73 n73 c73] 27));have hT9:=Aa Q9;obtain⟨⟨u0,u1,u2,u3,u4,u5,u6,u7⟩,z0,z1,z2,z3,z4,z5,z6,z7⟩:=Ac Q9;refine hK5.out _ _ ?hS1069_1 (fun hHeld=>?hq1069_1)
   case hS1069_1=>exact u6
   clear hK5 K5
   (try simp only[Act.put,sX])
   refine Ae (i:=6) (v:=?v1070_1) rfl (by kernel_rfl) (by kernel_rfl) (by kernel_rfl) (fun _ _ _ h=>h) (Or.inl ⟨by rfl,?hy1070_1⟩) (by assumption) ?hr1070_1
   case hy1070_1 =>
    intro w' hSw
    (try dsimp only at hSw)
    go_simp
    (try with_reducible rfl)
   (try simp only[Act.put,sX])
   refine wpAnyH_done (by kernel_rfl) ?hr1071_1 _;refine As rfl ?hq1071_1;go_simp;refine hK.out _ _ ?hs1071_1;clear hK K;clear l0 l1 l2 l3 l4 l5 l6 l7 u0 u1 u2 u3 u4 u5 u6 u7 z0 z1 z2 z3 z4 z5 z6 z7;have f8:Fr [P] y2 x8:=((Fr.refl [P] y2).drew).trans f8;have row:=ROWH.out;obtain⟨F,g0,q0,h0,row,hsh,hnew,hsz⟩:=Ct (fld:=6) (size:=8) Al f8 hx3 rfl hst g0 q0 row F (by omega) (by omega) (by omega) (by omega) (by omega) (by omega) (by omega) hown9 hgrow9 hfp9 (VV':=#[vI 11,vI t.at',vE,vI 0,vE,vZ,.slice (some ⟨g8,0,none⟩) 3 cp8,vZ]) rfl;clear ROWH ROW9 Q8 Q9 hown9 hgrow9 hfp9 f8 hst hT8 hT9 hTwr
   generalize w9.setCell ⟨T,6,none⟩ (.slice (some ⟨g8,0,none⟩) 3 cp8)=y3 at *
   clear hsh hnew hsz cS;have hBT2:=Aa g0;have row0:=Aj.keep (ok':=fun b=>B<b) Al row (Sh.of_fr (Fr.refl [] y3) (fun b hb hlt=>⟨hb.1,fun x=>by cases x⟩));obtain⟨⟨l0,l1,l2,l3,l4,l5,l6,l7⟩,_⟩:=Ac q0;obtain⟨⟨u0,u1,u2,u3,u4,u5,u6,u7⟩,z0,z1,z2,z3,z4,z5,z6,z7⟩:=Ac g0;clear row;have HG:=Hz (An g0 (vI 11) (vI t.at') (vE) (vI 0) (vE) (vZ) (.slice (some ⟨g8,0,none⟩) 3 cp8) (vZ));have HF:=Hz ((F).step (Ag y3 B (vI 11) (vI t.at') (vE) (vI 0) (vE) (vZ) (.slice (some ⟨g8,0,none⟩) 3 cp8) (vZ)) (fun x hx => .inr (by simp at hx;omega)));have HP:=Hz ((h0).frL (Ag y3 B (vI 11) (vI t.at') (vE) (vI 0) (vE) (vZ) (.slice (some ⟨g8,0,none⟩) 3 cp8) (vZ)) (by simpa using nP) (by simpa using ng));have HR:=Hz (Aj.keep (ok':=fun b=>B≤b) Al row0 (Sh.of_fr (Ag y3 B (vI 11) (vI t.at') (vE) (vI 0) (vE) (vZ) (.slice (some ⟨g8,0,none⟩) 3 cp8) (vZ)) (fun b hb hlt=>⟨by omega,by simp;omega⟩)));unfold st8 at HG HF HP HR;go_wp2_with fail;generalize (((((((y3.setCell ⟨B,0,none⟩ (vI 11)).setCell ⟨B,1,none⟩ (vI t.at')).setCell ⟨B,2,none⟩ (vE)).setCell ⟨B,3,none⟩ (vI 0)).setCell ⟨B,4,none⟩ (vE)).setCell ⟨B,5,none⟩ (vZ)).setCell ⟨B,6,none⟩ (.slice (some ⟨g8,0,none⟩) 3 cp8)).setCell ⟨B,7,none⟩ (vZ)=Z at HG HF HP HR ⊢;obtain⟨⟨d0,d1,d2,d3,d4,d5,d6,d7⟩,_⟩:=Ac HG.out;have hxx:=Ai.of_rows (k:=11) (a:=t.at') (nm:=[]) (n:=0) (s:=[]) (c5:=fun _=>[]) (c7:=fun _=>[]) Aj.nil_ HR.out Aj.nil_;refine bodyPost_ret (v:=.agg #[vI 11,vI t.at',vE,vI 0,vE,vZ,.slice (some ⟨g8,0,none⟩) 3 cp8,vZ]) ?_ rfl ?_
   ·simp[results,Tryz.f33,go_sem,d0,d1,d2,d3,d4,d5,d6,d7]
   ·exact⟨_,_,_,_,_,_,_,_,_,_,_,_,_,_,_,_,_,_,rfl,by rw[hB];exact hxx,.look HT.out (.may_no HT.out HB0.out (.els (.isC_ HT.out HB1.out (.els (.may_no HT.out HB2.out (.els (.may_no HT.out HB3.out (.els (.may_yes HT.out HB4.out (.thn (.callE hr1 (.must_ hp (.callE hr2 (.must_ hq (.callE hr3 .retE))))))))))))))),HP.out,HF.out⟩
 case hB =>
  go_simp;refine hK6.out _ _ ?hS1049 (fun hHeld=>?hq1049)
  case hS1049=>exact(Am (Ad q3 _)).2.1
  clear hK6 K6
  (try simp only[Act.put,sX])
  refine Ak (i:=3) rfl (by kernel_rfl) (fun K3 hK3=>?hr1050);go_simp;refine(cS _ (h0.fr ((Fr.refl [] x5).alloc (.cells #[vI 0,vI 0,vE,vI 0,vE,vZ,vZ,vZ] 27)).drew)).out.mono ?_;rintro e x6 ⟨k1,a1,nm1,n1,s1,ls1,args1,arms1,A51,n51,c51,A61,n61,c61,A71,n71,c71,st2,rfl,hx1,hr1,hst2,f6⟩;have Q6:=f6.keep (w:=(x5.alloc (.cells #[vI 0,vI 0,vE,vI 0,vE,vZ,vZ,vZ] 27)).drew) (Ad q3 (.cells #[vI 0,vI 0,vE,vI 0,vE,vZ,vZ,vZ] 27)) (by simp;omega);have hT6:=Aa Q6;have M6:=Am Q6;have R6:=f6.keep (w:=(x5.alloc (.cells #[vI 0,vI 0,vE,vI 0,vE,vZ,vZ,vZ] 27)).drew) (Ab x5 (.cells #[vI 0,vI 0,vE,vI 0,vE,vZ,vZ,vZ] 27)) (by simp;omega);have hR6:=Aa R6;obtain⟨⟨u0,u1,u2,u3,u4,u5,u6,u7⟩,z0,z1,z2,z3,z4,z5,z6,z7⟩:=Ac R6;go_simp;refine hK3.out _ _ ?hS1050 (fun hHeld=>?hq1050)
  case hS1050=>exact M6.2.1
  clear hK3 K3
  (try simp only[Act.put,sX])
  refine Ak (i:=4) rfl (by kernel_rfl) (fun K4 hK4=>?hr1051);go_simp;refine hK4.out _ _ ?hS1051 (fun hHeld=>?hq1051)
  case hS1051=>exact(Am (Ad Q6 _)).2.1
  clear hK4 K4
  (try simp only[Act.put,sX])
  refine Ae (i:=5) (v:=?v1052) rfl (by kernel_rfl) (by kernel_rfl) (by kernel_rfl) (fun _ _ _ h=>h) (Or.inl ⟨by rfl,?hy1052⟩) (by assumption) ?hr1052
  case hy1052 =>
   intro w' hSw
   (try dsimp only at hSw)
   go_simp
   (try with_reducible rfl)
  (try simp only[Act.put,sX])
  refine wpAnyH_done (by kernel_rfl) ?hr1053 _;refine As rfl ?hq1053;go_simp;refine hK.out _ _ ?hs1053;clear hK K;have f6:Fr [P] (x5.alloc (.cells #[vI 0,vI 0,vE,vI 0,vE,vZ,vZ,vZ] 27)) x6:=((Fr.refl [P] _).drew).trans f6;have hs6:=f6.size;have hsz:(x5.alloc (.cells #[vI 0,vI 0,vE,vI 0,vE,vZ,vZ,vZ] 27)).heap.size=x5.heap.size+1:=by simp
  clear u0 u1 u2 u3 u4 u5 u6 u7 z0 z1 z2 z3 z4 z5 z6 z7;have fs:=Ag x6 x5.heap.size (vI 11) (vI t.at') (vE) (vI 0) (vE) (vZ) (.slice (some ⟨x6.heap.size,0,none⟩) 1 1) (vZ);have hx1:=hx1.keep (ok':=fun b=>B<b∧¬ b=x5.heap.size∧¬ b=P) (Sh.of_fr fs (fun b hb hlt=>⟨by have:(x5.alloc (.cells #[vI 0,vI 0,vE,vI 0,vE,vZ,vZ,vZ] 27)).heap.size≤b:=hb;exact⟨by omega,by omega,by omega⟩,by have:(x5.alloc (.cells #[vI 0,vI 0,vE,vI 0,vE,vZ,vZ,vZ] 27)).heap.size≤b:=hb;simp;omega⟩));have hst:=C5 x6 x5.heap.size (vI 11) (vI t.at') (vE) (vI 0) (vE) (vZ) (.slice (some ⟨x6.heap.size,0,none⟩) 1 1) (vZ);have row:=Aj.lit Al (T:=27) (size:=8) (ok:=fun b=>B<b∧¬ b=x5.heap.size∧¬ b=P) hx1 rfl (by rw[hst];exact⟨by omega,by omega,by omega⟩);rw[hst] at row;have q0:=Ad (An R6 (vI 11) (vI t.at') (vE) (vI 0) (vE) (vZ) (.slice (some ⟨x6.heap.size,0,none⟩) 1 1) (vZ)) (.cells #[vI k1,vI a1,vS nm1,vI n1,vS s1,.slice A51 n51 c51,.slice A61 n61 c61,.slice A71 n71 c71] 27);have g0:=Ad (fs.keep (f6.keep (Ad g0 (.cells #[vI 0,vI 0,vE,vI 0,vE,vZ,vZ,vZ] 27)) (by simp;omega)) (by simp;omega)) (.cells #[vI k1,vI a1,vS nm1,vI n1,vS s1,.slice A51 n51 c51,.slice A61 n61 c61,.slice A71 n71 c71] 27);have h0:=(hst2.frL fs (by simp;omega) (by simp;omega)).fr ((Fr.refl [] (st8 x6 x5.heap.size (vI 11) (vI t.at') (vE) (vI 0) (vE) (vZ) (.slice (some ⟨x6.heap.size,0,none⟩) 1 1) (vZ))).alloc (.cells #[vI k1,vI a1,vS nm1,vI n1,vS s1,.slice A51 n51 c51,.slice A61 n61 c61,.slice A71 n71 c71] 27))
  have F:=((((F.alloc (.cells #[vI 0,vI 0,vE,vI 0,vE,vZ,vZ,vZ] 27)).trans f6).step fs (fun x hx => .inr (by simp at hx;omega))).alloc (.cells #[vI k1,vI a1,vS nm1,vI n1,vS s1,.slice A51 n51 c51,.slice A61 n61 c61,.slice A71 n71 c71] 27))
  have hBT:B<x5.heap.size:=by omega
  unfold st8 at row q0 g0 h0 F;clear hsz hst fs f6 hx1 hst2 Q6 M6 R6 q3 hT6 hR6 m0 m1 m2 m3 cS
  generalize ((((((((x6.setCell ⟨x5.heap.size,0,none⟩ (vI 11)).setCell ⟨x5.heap.size,1,none⟩ (vI t.at')).setCell ⟨x5.heap.size,2,none⟩ (vE)).setCell ⟨x5.heap.size,3,none⟩ (vI 0)).setCell ⟨x5.heap.size,4,none⟩ (vE)).setCell ⟨x5.heap.size,5,none⟩ (vZ)).setCell ⟨x5.heap.size,6,none⟩ (.slice (some ⟨x6.heap.size,0,none⟩) 1 1)).setCell ⟨x5.heap.size,7,none⟩ (vZ)).alloc (.cells #[vI k1,vI a1,vS nm1,vI n1,vS s1,.slice A51 n51 c51,.slice A61 n61 c61,.slice A71 n71 c71] 27)=wz at *
  generalize x6.heap.size=gz at *
  generalize x5.heap.size=T at *
  go_wp2_with fail;obtain⟨p,hp⟩:=At h0.inb;refine(Bc [116,104,101,110] P g c ts st2 p hp wz h0 HE.out).mono ?_;rintro e y0 ⟨rfl,h0,fm⟩;have g0:=fm.keep g0 (by simp;omega);have q0:=fm.keep q0 (by simp;omega);have F:=F.trans fm;have row:=Aj.keep (ok':=fun b=>B<b∧¬ b=T∧¬ b=P) Al row (Sh.of_fr fm (fun b hb hlt=>⟨hb,by simp;exact hb.2.2⟩));clear fm;obtain⟨i0,hi,hz0,hz1,hz2⟩:=info_parts Ef;have HI:=Hz hi;have HZ0:=Hz hz0;have HZ1:=Hz hz1;have HZ2:=Hz hz2;clear hi hz0 hz1 hz2;have hle1:=hr1.le;simp only at hle1;have hle2:=B3 p st2 [116,104,101,110];have cS:=fun W hW=>Hz (IH.out.item P g c (A4 p st2 [116,104,101,110]) W hW (by have:=HN.out;have:=h0.inb;omega))
  obtain⟨⟨l0,l1,l2,l3,l4,l5,l6,l7⟩,_⟩:=Ac q0;have hTwr:=Aa q0;have ROWH:=Hz row;clear row;go_wp2_with fail;refine Au (fun w'=>w'.cell? ⟨T,6,none⟩=some (.slice (some ⟨gz,0,none⟩) 1 1)) (by kernel_rfl) (by kernel_rfl) ?hS1054_2 (fun K hK hHeld=>?hr1054_2)
  case hS1054_2=>go_keep
  refine Ae (i:=0) (v:=?v1055_2) rfl (by kernel_rfl) (by kernel_rfl) (by kernel_rfl) (fun _ _ _ h=>h) (Or.inl ⟨by rfl,?hy1055_2⟩) (by assumption) ?hr1055_2
  case hy1055_2 =>
   intro w' hSw
   (try dsimp only at hSw)
   go_simp
   (try with_reducible rfl)
  (try simp only[Act.put,sX])
  refine Ae (i:=1) (v:=?v1056_2) rfl (by kernel_rfl) (by kernel_rfl) (by kernel_rfl) (fun _ _ _ h=>h) (Or.inl ⟨by rfl,?hy1056_2⟩) (by assumption) ?hr1056_2
  case hy1056_2 =>
   intro w' hSw
   (try dsimp only at hSw)
   go_simp
   (try with_reducible rfl)
  (try simp only[Act.put,sX])
  refine Ae (i:=2) (v:=?v1057_2) rfl (by kernel_rfl) (by kernel_rfl) (by kernel_rfl) (fun _ _ _ h=>h) (Or.inl ⟨by rfl,?hy1057_2⟩) (by assumption) ?hr1057_2
  case hy1057_2 =>
   intro w' hSw
   (try dsimp only at hSw)
   go_simp
   (try with_reducible rfl)
  (try simp only[Act.put,sX])
  refine Ak (i:=3) rfl (by kernel_rfl) (fun K3 hK3=>?hr1058_2);go_simp;refine((cS _ (h0.fr (Fr.refl [] y0).drew)).out).mono ?_;rintro e x8 ⟨k2,a2,nm2,n2,s2,ls2,args2,arms2,A52,n52,c52,A62,n62,c62,A72,n72,c72,st5,rfl,hx2,hr2,hst5,f8⟩;have hst:=hst5;have Q8:=f8.keep (w:=y0.drew) q0 (by simp;omega);have hT8:=Aa Q8;have ROW9:=Aj.keep (w':=x8.alloc (.cells #[vI k2,vI a2,vS nm2,vI n2,vS s2,.slice A52 n52 c52,.slice A62 n62 c62,.slice A72 n72 c72] 27)) (ok':=fun b=>B<b∧¬ b=T∧¬ b=P) Al ROWH.out (Sh.of_fr (((Fr.refl [P] y0).drew.trans f8).alloc _) (fun b hb hlt=>⟨hb,by simp;exact hb.2.2⟩));go_simp;refine hK3.out _ _ ?hS1058_2 (fun hHeld=>?hq1058_2)
  case hS1058_2=>exact(Ac Q8).1.2.2.2.2.2.2.1
  clear hK3 K3
  (try simp only[Act.put,sX])
  refine Ak (i:=4) rfl (by kernel_rfl) (fun K4 hK4=>?hr1059_2);go_simp;refine hK4.out _ _ ?hS1059_2 (fun hHeld=>?hq1059_2)
  case hS1059_2=>exact Af (Ad Q8 _) 6
  clear hK4 K4
  (try simp only[Act.put,sX])
  refine Ak (i:=5) rfl (by kernel_rfl) (fun K5 hK5=>?hr1060_2);refine Az (by rfl) _ _ 24 (by rfl) 27 i0 _ 8 128 underlying24 HI.out HZ0.out HZ1.out HZ2.out rfl (by decide) (.slice (some ⟨gz,0,none⟩) 1 1) 1 (Cc (fun _=>[vI k1,vI a1,vS nm1,vI n1,vS s1,.slice A51 n51 c51,.slice A61 n61 c61,.slice A71 n71 c71]) 1) (by rfl) ROW9.own ⟨x8.heap.size,0,none⟩ 1 1 [vI k2,vI a2,vS nm2,vI n2,vS s2,.slice A52 n52 c52,.slice A62 n62 c62,.slice A72 n72 c72] (by rfl) rfl (World.news_of_block (Ab x8 _)) (by simp[Value.oneCell']) (by decide) (by decide) ?_;intro v9 w9 hown9 hgrow9 hfp9;obtain⟨g9,cp9,hv9⟩:∃ g cap,v9 = .slice (some ⟨g,0,none⟩) (2) cap:=B9 hown9
  subst hv9;have Q9:=(hgrow9.block T (Aa (Ad Q8 (.cells #[vI k2,vI a2,vS nm2,vI n2,vS s2,.slice A52 n52 c52,.slice A62 n62 c62,.slice A72 n72 c72] 27))) (fun e=>(ROWH.out.blk T e.symm).2.1 rfl)).trans (Ad Q8 (.cells #[vI k2,vI a2,vS nm2,vI n2,vS s2,.slice A52 n52 c52,.slice A62 n62 c62,.slice A72 n72 c72] 27));have hT9:=Aa Q9;obtain⟨⟨u0,u1,u2,u3,u4,u5,u6,u7⟩,z0,z1,z2,z3,z4,z5,z6,z7⟩:=Ac Q9;refine hK5.out _ _ ?hS1060_2 (fun hHeld=>?hq1060_2)
  case hS1060_2=>exact u6
  clear hK5 K5
  (try simp only[Act.put,sX])
  refine Ae (i:=6) (v:=?v1061_2) rfl (by kernel_rfl) (by kernel_rfl) (by kernel_rfl) (fun _ _ _ h=>h) (Or.inl ⟨by rfl,?hy1061_2⟩) (by assumption) ?hr1061_2
  case hy1061_2 =>
   intro w' hSw
   (try dsimp only at hSw)
   go_simp
   (try with_reducible rfl)
  (try simp only[Act.put,sX])
  refine wpAnyH_done (by kernel_rfl) ?hr1062_2 _;refine As rfl ?hq1062_2;go_simp;refine hK.out _ _ ?hs1062_2;clear hK K;clear l0 l1 l2 l3 l4 l5 l6 l7 u0 u1 u2 u3 u4 u5 u6 u7 z0 z1 z2 z3 z4 z5 z6 z7;have f8:Fr [P] y0 x8:=((Fr.refl [P] y0).drew).trans f8;have row:=ROWH.out;obtain⟨F,g0,q0,h0,row,hsh,hnew,hsz⟩:=Ct (fld:=6) (size:=8) Al f8 hx2 rfl hst g0 q0 row F (by omega) (by omega) (by omega) (by omega) (by omega) (by omega) (by omega) hown9 hgrow9 hfp9 (VV':=#[vI 11,vI t.at',vE,vI 0,vE,vZ,.slice (some ⟨g9,0,none⟩) 2 cp9,vZ]) rfl;clear ROWH ROW9 Q8 Q9 hown9 hgrow9 hfp9 f8 hst hT8 hT9 hTwr
  generalize w9.setCell ⟨T,6,none⟩ (.slice (some ⟨g9,0,none⟩) 2 cp9)=y1 at *
  clear hsh hnew hsz cS;go_wp2_with fail;obtain⟨q,hq⟩:=At h0.inb;refine(Bc [101,108,115,101] P g c ts st5 q hq y1 h0 HE.out).mono ?_;rintro e y2 ⟨rfl,h0,fm⟩;have g0:=fm.keep g0 (by simp;omega);have q0:=fm.keep q0 (by simp;omega);have F:=F.trans fm;have row:=Aj.keep (ok':=fun b=>B<b∧¬ b=T∧¬ b=P) Al row (Sh.of_fr fm (fun b hb hlt=>⟨hb,by simp;exact hb.2.2⟩));clear fm;have hle3:=hr2.le;have hle4:=B3 q st5 [101,108,115,101];have cS:=fun W hW=>Hz (IH.out.item P g c (A4 q st5 [101,108,115,101]) W hW (by have:=HN.out;have:=h0.inb;omega))
  obtain⟨⟨l0,l1,l2,l3,l4,l5,l6,l7⟩,_⟩:=Ac q0;have hTwr:=Aa q0;have ROWH:=Hz row;clear row;go_wp2_with fail;refine Au (fun w'=>w'.cell? ⟨T,6,none⟩=some (.slice (some ⟨g9,0,none⟩) 2 cp9)) (by kernel_rfl) (by kernel_rfl) ?hS1063_2 (fun K hK hHeld=>?hr1063_2)
  case hS1063_2=>go_keep
  refine Ae (i:=0) (v:=?v1064_2) rfl (by kernel_rfl) (by kernel_rfl) (by kernel_rfl) (fun _ _ _ h=>h) (Or.inl ⟨by rfl,?hy1064_2⟩) (by assumption) ?hr1064_2
  case hy1064_2 =>
   intro w' hSw
   (try dsimp only at hSw)
   go_simp
   (try with_reducible rfl)
  (try simp only[Act.put,sX])
  refine Ae (i:=1) (v:=?v1065_2) rfl (by kernel_rfl) (by kernel_rfl) (by kernel_rfl) (fun _ _ _ h=>h) (Or.inl ⟨by rfl,?hy1065_2⟩) (by assumption) ?hr1065_2
  case hy1065_2 =>
   intro w' hSw
   (try dsimp only at hSw)
   go_simp
   (try with_reducible rfl)
  (try simp only[Act.put,sX])
  refine Ae (i:=2) (v:=?v1066_2) rfl (by kernel_rfl) (by kernel_rfl) (by kernel_rfl) (fun _ _ _ h=>h) (Or.inl ⟨by rfl,?hy1066_2⟩) (by assumption) ?hr1066_2
  case hy1066_2 =>
   intro w' hSw
   (try dsimp only at hSw)
   go_simp
   (try with_reducible rfl)
  (try simp only[Act.put,sX])
  refine Ak (i:=3) rfl (by kernel_rfl) (fun K3 hK3=>?hr1067_2);go_simp;refine((cS _ (h0.fr (Fr.refl [] y2).drew)).out).mono ?_;rintro e x8 ⟨k3,a3,nm3,n3,s3,ls3,args3,arms3,A53,n53,c53,A63,n63,c63,A73,n73,c73,st7,rfl,hx3,hr3,hst7,f8⟩;have hst:=hst7;have Q8:=f8.keep (w:=y2.drew) q0 (by simp;omega);have hT8:=Aa Q8;have ROW9:=Aj.keep (w':=x8.alloc (.cells #[vI k3,vI a3,vS nm3,vI n3,vS s3,.slice A53 n53 c53,.slice A63 n63 c63,.slice A73 n73 c73] 27)) (ok':=fun b=>B<b∧¬ b=T∧¬ b=P) Al ROWH.out (Sh.of_fr (((Fr.refl [P] y2).drew.trans f8).alloc _) (fun b hb hlt=>⟨hb,by simp;exact hb.2.2⟩));go_simp;refine hK3.out _ _ ?hS1067_2 (fun hHeld=>?hq1067_2)
  case hS1067_2=>exact(Ac Q8).1.2.2.2.2.2.2.1
  clear hK3 K3
  (try simp only[Act.put,sX])
  refine Ak (i:=4) rfl (by kernel_rfl) (fun K4 hK4=>?hr1068_2);go_simp;refine hK4.out _ _ ?hS1068_2 (fun hHeld=>?hq1068_2)
  case hS1068_2=>exact Af (Ad Q8 _) 6
  clear hK4 K4
  (try simp only[Act.put,sX])
  refine Ak (i:=5) rfl (by kernel_rfl) (fun K5 hK5=>?hr1069_2);refine Az (by rfl) _ _ 24 (by rfl) 27 i0 _ 8 128 underlying24 HI.out HZ0.out HZ1.out HZ2.out rfl (by decide) (.slice (some ⟨g9,0,none⟩) 2 cp9) 2 (Cc (fun i=>if i=[(.mk k1 a1 nm1 n1 s1 ls1 args1 arms1)].length then [vI k2,vI a2,vS nm2,vI n2,vS s2,.slice A52 n52 c52,.slice A62 n62 c62,.slice A72 n72 c72] else [vI k1,vI a1,vS nm1,vI n1,vS s1,.slice A51 n51 c51,.slice A61 n61 c61,.slice A71 n71 c71]) 2) (by rfl) ROW9.own ⟨x8.heap.size,0,none⟩ 1 1 [vI k3,vI a3,vS nm3,vI n3,vS s3,.slice A53 n53 c53,.slice A63 n63 c63,.slice A73 n73 c73] (by rfl) rfl (World.news_of_block (Ab x8 _)) (by simp[Value.oneCell']) (by decide) (by decide) ?_;intro v9 w9 hown9 hgrow9 hfp9;obtain⟨g8,cp8,hv9⟩:∃ g cap,v9 = .slice (some ⟨g,0,none⟩) (3) cap:=B9 hown9
  subst hv9;have Q9:=(hgrow9.block T (Aa (Ad Q8 (.cells #[vI k3,vI a3,vS nm3,vI n3,vS s3,.slice A53 n53 c53,.slice A63 n63 c63,.slice A73 n73 c73] 27))) (fun e=>(ROWH.out.blk T e.symm).2.1 rfl)).trans (Ad Q8 (.cells #[vI k3,vI a3,vS nm3,vI n3,vS s3,.slice A53 n53 c53,.slice A63 n63 c63,.slice A73 n73 c73] 27));have hT9:=Aa Q9;obtain⟨⟨u0,u1,u2,u3,u4,u5,u6,u7⟩,z0,z1,z2,z3,z4,z5,z6,z7⟩:=Ac Q9;refine hK5.out _ _ ?hS1069_2 (fun hHeld=>?hq1069_2)
  case hS1069_2=>exact u6
  clear hK5 K5
  (try simp only[Act.put,sX])
  refine Ae (i:=6) (v:=?v1070_2) rfl (by kernel_rfl) (by kernel_rfl) (by kernel_rfl) (fun _ _ _ h=>h) (Or.inl ⟨by rfl,?hy1070_2⟩) (by assumption) ?hr1070_2
  case hy1070_2 =>
   intro w' hSw
   (try dsimp only at hSw)
   go_simp
   (try with_reducible rfl)
  (try simp only[Act.put,sX])
  refine wpAnyH_done (by kernel_rfl) ?hr1071_2 _;refine As rfl ?hq1071_2;go_simp;refine hK.out _ _ ?hs1071_2;clear hK K;clear l0 l1 l2 l3 l4 l5 l6 l7 u0 u1 u2 u3 u4 u5 u6 u7 z0 z1 z2 z3 z4 z5 z6 z7;have f8:Fr [P] y2 x8:=((Fr.refl [P] y2).drew).trans f8;have row:=ROWH.out;obtain⟨F,g0,q0,h0,row,hsh,hnew,hsz⟩:=Ct (fld:=6) (size:=8) Al f8 hx3 rfl hst g0 q0 row F (by omega) (by omega) (by omega) (by omega) (by omega) (by omega) (by omega) hown9 hgrow9 hfp9 (VV':=#[vI 11,vI t.at',vE,vI 0,vE,vZ,.slice (some ⟨g8,0,none⟩) 3 cp8,vZ]) rfl;clear ROWH ROW9 Q8 Q9 hown9 hgrow9 hfp9 f8 hst hT8 hT9 hTwr
  generalize w9.setCell ⟨T,6,none⟩ (.slice (some ⟨g8,0,none⟩) 3 cp8)=y3 at *
  clear hsh hnew hsz cS;have hBT2:=Aa g0;have row0:=Aj.keep (ok':=fun b=>B<b) Al row (Sh.of_fr (Fr.refl [] y3) (fun b hb hlt=>⟨hb.1,fun x=>by cases x⟩));obtain⟨⟨l0,l1,l2,l3,l4,l5,l6,l7⟩,_⟩:=Ac q0;obtain⟨⟨u0,u1,u2,u3,u4,u5,u6,u7⟩,z0,z1,z2,z3,z4,z5,z6,z7⟩:=Ac g0;clear row;have HG:=Hz (An g0 (vI 11) (vI t.at') (vE) (vI 0) (vE) (vZ) (.slice (some ⟨g8,0,none⟩) 3 cp8) (vZ));have HF:=Hz ((F).step (Ag y3 B (vI 11) (vI t.at') (vE) (vI 0) (vE) (vZ) (.slice (some ⟨g8,0,none⟩) 3 cp8) (vZ)) (fun x hx => .inr (by simp at hx;omega)));have HP:=Hz ((h0).frL (Ag y3 B (vI 11) (vI t.at') (vE) (vI 0) (vE) (vZ) (.slice (some ⟨g8,0,none⟩) 3 cp8) (vZ)) (by simpa using nP) (by simpa using ng));have HR:=Hz (Aj.keep (ok':=fun b=>B≤b) Al row0 (Sh.of_fr (Ag y3 B (vI 11) (vI t.at') (vE) (vI 0) (vE) (vZ) (.slice (some ⟨g8,0,none⟩) 3 cp8) (vZ)) (fun b hb hlt=>⟨by omega,by simp;omega⟩)));unfold st8 at HG HF HP HR;go_wp2_with fail;generalize (((((((y3.setCell ⟨B,0,none⟩ (vI 11)).setCell ⟨B,1,none⟩ (vI t.at')).setCell ⟨B,2,none⟩ (vE)).setCell ⟨B,3,none⟩ (vI 0)).setCell ⟨B,4,none⟩ (vE)).setCell ⟨B,5,none⟩ (vZ)).setCell ⟨B,6,none⟩ (.slice (some ⟨g8,0,none⟩) 3 cp8)).setCell ⟨B,7,none⟩ (vZ)=Z at HG HF HP HR ⊢;obtain⟨⟨d0,d1,d2,d3,d4,d5,d6,d7⟩,_⟩:=Ac HG.out;have hxx:=Ai.of_rows (k:=11) (a:=t.at') (nm:=[]) (n:=0) (s:=[]) (c5:=fun _=>[]) (c7:=fun _=>[]) Aj.nil_ HR.out Aj.nil_;refine bodyPost_ret (v:=.agg #[vI 11,vI t.at',vE,vI 0,vE,vZ,.slice (some ⟨g8,0,none⟩) 3 cp8,vZ]) ?_ rfl ?_
  ·simp[results,Tryz.f33,go_sem,d0,d1,d2,d3,d4,d5,d6,d7]
  ·exact⟨_,_,_,_,_,_,_,_,_,_,_,_,_,_,_,_,_,_,rfl,by rw[hB];exact hxx,.look HT.out (.may_no HT.out HB0.out (.els (.isC_ HT.out HB1.out (.els (.may_no HT.out HB2.out (.els (.may_no HT.out HB3.out (.els (.may_yes HT.out HB4.out (.thn (.callE hr1 (.must_ hp (.callE hr2 (.must_ hq (.callE hr3 .retE))))))))))))))),HP.out,HF.out⟩
end
end Go.Proofs.YtpjkfeehgookkaaGreatDoor
