/- A part of the proof: It2, It5. -/
import Derived.Deep.DrawnRows
import Derived.Test.YtpjkfeehgookkaaGreatDoorGn12
namespace Go.Proofs.YtpjkfeehgookkaaGreatDoor
open Go.RowKit
open _root_.Go.Proofs.Tryz
set_option linter.all false
set_option maxHeartbeats 16000000
set_option maxRecDepth 100000
section
attribute [local go_sem ↓] Go.wp_at_zero Go.wp_at_succ
theorem R0(ts:List Tok)(hE:Be ts)(N:Nat)(ih:Dp ts N)(P g c:Nat)(st:St)(w:World)(h:PSt P g c ts st w)(hm:16 *(ts.length-st.i)+12<N+1)(t:Tok)(ht:ts[st.i]?=some t)(hb0:isB t st.ok [[108,101,116]]=true)(hr:∀ u,ts[st.i+1]?=some u→isB u st.ok [[114,101,99]]=true):Calls prog 33 #[.pointer (some ⟨P,0,none⟩)] w (Fl P g c ts st (body .item) w):=by
 have HRC:Hid (∀ u,ts[st.i+1]?=some u→isB u st.ok [[114,101,99]]=true):=Hz hr;clear hr;have HB0:=Hz hb0;clear hb0;have H:=Hz h;have hP:=Aa h.blk;have hgl:=h.lt;have hin:=h.inb;have HN:=Hz hm;have HE:=Hz hE;have IH:=Hz ih;clear h hm hE ih;go_enter func33,ntmps33;go_wp2_with fail;have f0:Fr [] w (w.alloc (.cells #[vI 0,vI 0,vE,vI 0,vE,vZ,vZ,vZ] 27)):=(Fr.refl [] w).alloc _;have g0:=Ab w (.cells #[vI 0,vI 0,vE,vI 0,vE,vZ,vZ,vZ] 27)
 generalize w.alloc (.cells #[vI 0,vI 0,vE,vI 0,vE,vZ,vZ,vZ] 27)=w1 at *
 generalize hB:w.heap.size=B at *
 have hB1:=Aa g0;have nP:¬ P=B:=by omega
 have nB:¬ B=P:=by omega
 have ng:¬ g=B:=by omega
 have HT:=Hz ht;refine(Bd P g c ts st t ht w1 (H.out.fr f0) HE.out).mono ?_;rintro e x3 ⟨rfl,f3⟩;go_wp2_with fail;have q3:=Ab x3 (.cells #[vI t.k,vI t.at',.string ⟨t.text.toArray⟩,vI t.n] 46);have fb4:Fr [] x3 (x3.alloc (.cells #[vI t.k,vI t.at',.string ⟨t.text.toArray⟩,vI t.n] 46)):=(Fr.refl [] x3).alloc _
 generalize x3.alloc (.cells #[vI t.k,vI t.at',.string ⟨t.text.toArray⟩,vI t.n] 46)=x4 at *
 have hT4:=Aa q3;have hs3:=f3.size
 generalize x3.heap.size=T3 at *
 have f4:=(f0.trans f3).trans fb4;have g0:=(f3.trans fb4).keep g0 nE;have h4:=H.out.fr f4;have hPB:P<B:=by omega
 have hgB:g<B:=by omega
 have hBw:w.heap.size≤B:=by omega
 have hBT3:B<T3:=by have:=(f0.trans f3).size;have:=Aa g0;omega
 clear f0 f3 fb4;refine(may_yes [108,101,116] P g c ts st t HT.out HB0.out x4 h4 HE.out).mono ?_;rintro e x5 ⟨rfl,h0,f5⟩;have g0:=f5.keep g0 (by simpa using nB);have q3:=f5.keep q3 (by simp;omega);have F:Fr [P] w x5:=(f4.mono (fun x hx=>by cases hx)).trans f5;have hs5:=Aa g0;clear f4 f5 h4 hT4 hs3;obtain⟨m0,m1,m2,m3,_⟩:=Am q3;go_wp2_with fail;have q0:=Ab x5 (.cells #[vI 9,vI t.at',vE,vI 0,vE,vZ,vZ,vZ] 27);have fb:Fr [] x5 (x5.alloc (.cells #[vI 9,vI t.at',vE,vI 0,vE,vZ,vZ,vZ] 27)):=(Fr.refl [] x5).alloc _
 generalize x5.alloc (.cells #[vI 9,vI t.at',vE,vI 0,vE,vZ,vZ,vZ] 27)=x6 at *
 have hBT:B<x5.heap.size:=Aa g0
 generalize x5.heap.size=T at *
 have g0:=fb.keep g0 nE;have h0:=h0.fr fb;have F:=F.trans0 fb;clear fb;clear m0 m1 m2 m3 q3;obtain⟨u,hu⟩:=At h0.inb;refine(may_yes [114,101,99] P g c ts ⟨st.i+1,st.ok⟩ u hu (HRC.out u hu) x6 h0 HE.out).mono ?_;rintro e x7 ⟨rfl,h0,fm⟩;have g0:=fm.keep g0 (by simp;omega);have q0:=fm.keep q0 (by simp;omega);have F:=F.trans fm;clear fm;go_wp2_with fail;obtain⟨v,hv⟩:=At h0.inb;refine(Fb P g c ts ⟨st.i+1+1,st.ok⟩ v hv x7 h0 HE.out).mono ?_;rintro e x8 ⟨rfl,h0,fm⟩;have g0:=fm.keep g0 (by simp;omega);have q0:=fm.keep q0 (by simp;omega);have F:=F.trans fm;obtain⟨⟨m0,m1,m2,m3,m4,m5,m6,m7⟩,j0,j1,j2,j3,j4,j5,j6,j7⟩:=Ac q0;have hTx:=Aa q0;have q1:(x8.setCell ⟨T,2,none⟩ (.string ⟨(Aq v ⟨st.i+1+1,st.ok⟩).toArray⟩)).heap[T]?=some (.cells #[vI 9,vI t.at',.string ⟨(Aq v ⟨st.i+1+1,st.ok⟩).toArray⟩,vI 0,vE,vZ,vZ,vZ] 27 (0,0)):=Bi q0 2 _;have fs:=(Fr.refl [T] x8).setCell (p:=⟨T,2,none⟩) (.inl (by simp)) (.string ⟨(Aq v ⟨st.i+1+1,st.ok⟩).toArray⟩);have g0:=fs.keep g0 (by simp;omega);have h0:=h0.frL fs (by simp;omega) (by simp;omega);have F:=F.step fs (fun x hx => .inr (by simp at hx;omega));have HQ:=Hz q1;clear q0 q1 fs;go_wp2_with fail;clear m0 m1 m2 m3 m4 m5 m6 m7 j0 j1 j2 j3 j4 j5 j6 j7;have q0:=HQ.out;clear HQ
 generalize x8.setCell ⟨T,2,none⟩ (.string ⟨(Aq v ⟨st.i+1+1,st.ok⟩).toArray⟩)=x8n at *
 have row:Lu x8n (fun b=>B<b∧¬ b=T∧¬ b=P) (vZ) ([]:List Ah) (fun _=>[]):=Aj.nil_;obtain⟨p,hp⟩:=At h0.inb;refine(Bc [61] P g c ts (Cd v ⟨st.i+1+1,st.ok⟩) p hp x8n h0 HE.out).mono ?_;rintro e y0 ⟨rfl,h0,fm⟩;have g0:=fm.keep g0 (by simp;omega);have q0:=fm.keep q0 (by simp;omega);have F:=F.trans fm;have row:=Aj.keep (ok':=fun b=>B<b∧¬ b=T∧¬ b=P) Al row (Sh.of_fr fm (fun b hb hlt=>⟨hb,by simp;exact hb.2.2⟩));clear fm;obtain⟨⟨m0,m1,m2,m3,m4,m5,m6,m7⟩,j0,j1,j2,j3,j4,j5,j6,j7⟩:=Ac q0;have hTx:=Aa q0;have q1:(y0.setCell ⟨T,0,none⟩ (vI 10)).heap[T]?=some (.cells #[vI 10,vI t.at',.string ⟨(Aq v ⟨st.i+1+1,st.ok⟩).toArray⟩,vI 0,vE,vZ,vZ,vZ] 27 (0,0)):=Bi q0 0 _;have fs:=(Fr.refl [T] y0).setCell (p:=⟨T,0,none⟩) (.inl (by simp)) (vI 10);have g0:=fs.keep g0 (by simp;omega);have h0:=h0.frL fs (by simp;omega) (by simp;omega);have F:=F.step fs (fun x hx => .inr (by simp at hx;omega));have HQ:=Hz q1;clear q0 q1 fs;go_wp2_with fail;clear m0 m1 m2 m3 m4 m5 m6 m7 j0 j1 j2 j3 j4 j5 j6 j7;have q0:=HQ.out;clear HQ
 generalize y0.setCell ⟨T,0,none⟩ (vI 10)=y0n at *
 have row:Lu y0n (fun b=>B<b∧¬ b=T∧¬ b=P) (vZ) ([]:List Ah) (fun _=>[]):=Aj.nil_;obtain⟨i0,hi,hz0,hz1,hz2⟩:=info_parts Ef;have HI:=Hz hi;have HZ0:=Hz hz0;have HZ1:=Hz hz1;have HZ2:=Hz hz2;clear hi hz0 hz1 hz2;have hle1:=E0 v ⟨st.i+1+1,st.ok⟩;have hle2:=B3 p (Cd v ⟨st.i+1+1,st.ok⟩) [61];simp only at hle1;have cS:=fun W hW=>Hz (IH.out.fn P g c (A4 p (Cd v ⟨st.i+1+1,st.ok⟩) [61]) W hW (by have:=HN.out;have:=h0.inb;omega))
 obtain⟨⟨l0,l1,l2,l3,l4,l5,l6,l7⟩,_⟩:=Ac q0;have hTwr:=Aa q0;have ROWH:=Hz row;clear row;go_wp2_with fail;refine Au (fun w'=>w'.cell? ⟨T,6,none⟩=some (vZ)) (by kernel_rfl) (by kernel_rfl) ?hS1018 (fun K hK hHeld=>?hr1018)
 case hS1018=>go_keep
 refine Ae (i:=0) (v:=?v1019) rfl (by kernel_rfl) (by kernel_rfl) (by kernel_rfl) (fun _ _ _ h=>h) (Or.inl ⟨by rfl,?hy1019⟩) (by assumption) ?hr1019
 case hy1019 =>
  intro w' hSw
  (try dsimp only at hSw)
  go_simp
  (try with_reducible rfl)
 (try simp only[Act.put,sX])
 refine Ae (i:=1) (v:=?v1020) rfl (by kernel_rfl) (by kernel_rfl) (by kernel_rfl) (fun _ _ _ h=>h) (Or.inl ⟨by rfl,?hy1020⟩) (by assumption) ?hr1020
 case hy1020 =>
  intro w' hSw
  (try dsimp only at hSw)
  go_simp
  (try with_reducible rfl)
 (try simp only[Act.put,sX])
 refine Ae (i:=2) (v:=?v1021) rfl (by kernel_rfl) (by kernel_rfl) (by kernel_rfl) (fun _ _ _ h=>h) (Or.inl ⟨by rfl,?hy1021⟩) (by assumption) ?hr1021
 case hy1021 =>
  intro w' hSw
  (try dsimp only at hSw)
  go_simp
  (try with_reducible rfl)
 (try simp only[Act.put,sX])
 refine Ak (i:=3) rfl (by kernel_rfl) (fun K3 hK3=>?hr1022);go_simp;refine((cS _ (h0.fr (Fr.refl [] y0n).drew)).out).mono ?_;rintro e x8 ⟨k1,a1,nm1,n1,s1,ls1,args1,arms1,A51,n51,c51,A61,n61,c61,A71,n71,c71,st5,rfl,hx1,hr1,hst5,f8⟩;have hst:=hst5;have Q8:=f8.keep (w:=y0n.drew) q0 (by simp;omega);have hT8:=Aa Q8;have ROW9:=Aj.keep (w':=x8.alloc (.cells #[vI k1,vI a1,vS nm1,vI n1,vS s1,.slice A51 n51 c51,.slice A61 n61 c61,.slice A71 n71 c71] 27)) (ok':=fun b=>B<b∧¬ b=T∧¬ b=P) Al ROWH.out (Sh.of_fr (((Fr.refl [P] y0n).drew.trans f8).alloc _) (fun b hb hlt=>⟨hb,by simp;exact hb.2.2⟩));go_simp;refine hK3.out _ _ ?hS1022 (fun hHeld=>?hq1022)
 case hS1022=>exact(Ac Q8).1.2.2.2.2.2.2.1
 clear hK3 K3
 (try simp only[Act.put,sX])
 refine Ak (i:=4) rfl (by kernel_rfl) (fun K4 hK4=>?hr1023);go_simp;refine hK4.out _ _ ?hS1023 (fun hHeld=>?hq1023)
 case hS1023=>exact Af (Ad Q8 _) 6
 clear hK4 K4
 (try simp only[Act.put,sX])
 refine Ak (i:=5) rfl (by kernel_rfl) (fun K5 hK5=>?hr1024);refine Az (by rfl) _ _ 24 (by rfl) 27 i0 _ 8 128 underlying24 HI.out HZ0.out HZ1.out HZ2.out rfl (by decide) (vZ) 0 (Cc (fun _=>[]) 0) (by rfl) ROW9.own ⟨x8.heap.size,0,none⟩ 1 1 [vI k1,vI a1,vS nm1,vI n1,vS s1,.slice A51 n51 c51,.slice A61 n61 c61,.slice A71 n71 c71] (by rfl) rfl (World.news_of_block (Ab x8 _)) (by simp[Value.oneCell']) (by decide) (by decide) ?_;intro v9 w9 hown9 hgrow9 hfp9;obtain⟨g9,cp9,hv9⟩:∃ g cap,v9 = .slice (some ⟨g,0,none⟩) (1) cap:=B9 hown9
 subst hv9;have Q9:=(hgrow9.block T (Aa (Ad Q8 (.cells #[vI k1,vI a1,vS nm1,vI n1,vS s1,.slice A51 n51 c51,.slice A61 n61 c61,.slice A71 n71 c71] 27))) (fun e=>(ROWH.out.blk T e.symm).2.1 rfl)).trans (Ad Q8 (.cells #[vI k1,vI a1,vS nm1,vI n1,vS s1,.slice A51 n51 c51,.slice A61 n61 c61,.slice A71 n71 c71] 27));have hT9:=Aa Q9;obtain⟨⟨u0,u1,u2,u3,u4,u5,u6,u7⟩,z0,z1,z2,z3,z4,z5,z6,z7⟩:=Ac Q9;refine hK5.out _ _ ?hS1024 (fun hHeld=>?hq1024)
 case hS1024=>exact u6
 clear hK5 K5
 (try simp only[Act.put,sX])
 refine Ae (i:=6) (v:=?v1025) rfl (by kernel_rfl) (by kernel_rfl) (by kernel_rfl) (fun _ _ _ h=>h) (Or.inl ⟨by rfl,?hy1025⟩) (by assumption) ?hr1025
 case hy1025 =>
  intro w' hSw
  (try dsimp only at hSw)
  go_simp
  (try with_reducible rfl)
 (try simp only[Act.put,sX])
 refine wpAnyH_done (by kernel_rfl) ?hr1026 _;refine As rfl ?hq1026;go_simp;refine hK.out _ _ ?hs1026;clear hK K;clear l0 l1 l2 l3 l4 l5 l6 l7 u0 u1 u2 u3 u4 u5 u6 u7 z0 z1 z2 z3 z4 z5 z6 z7;have f8:Fr [P] y0n x8:=((Fr.refl [P] y0n).drew).trans f8;have row:=ROWH.out;obtain⟨F,g0,q0,h0,row,hsh,hnew,hsz⟩:=Ct (fld:=6) (size:=8) Al f8 hx1 rfl hst g0 q0 row F (by omega) (by omega) (by omega) (by omega) (by omega) (by omega) (by omega) hown9 hgrow9 hfp9 (VV':=#[vI 10,vI t.at',.string ⟨(Aq v ⟨st.i+1+1,st.ok⟩).toArray⟩,vI 0,vE,vZ,.slice (some ⟨g9,0,none⟩) 1 cp9,vZ]) rfl;clear ROWH ROW9 Q8 Q9 hown9 hgrow9 hfp9 f8 hst hT8 hT9 hTwr
 generalize w9.setCell ⟨T,6,none⟩ (.slice (some ⟨g9,0,none⟩) 1 cp9)=y1 at *
 clear hsh hnew hsz cS;go_wp2_with fail;obtain⟨q,hq⟩:=At h0.inb;refine(Bc [105,110] P g c ts st5 q hq y1 h0 HE.out).mono ?_;rintro e y2 ⟨rfl,h0,fm⟩;have g0:=fm.keep g0 (by simp;omega);have q0:=fm.keep q0 (by simp;omega);have F:=F.trans fm;have row:=Aj.keep (ok':=fun b=>B<b∧¬ b=T∧¬ b=P) Al row (Sh.of_fr fm (fun b hb hlt=>⟨hb,by simp;exact hb.2.2⟩));clear fm;have hle3:=hr1.le;have hle4:=B3 q st5 [105,110];have cS:=fun W hW=>Hz (IH.out.seq P g c (A4 q st5 [105,110]) W hW (by have:=HN.out;have:=h0.inb;omega))
 obtain⟨⟨l0,l1,l2,l3,l4,l5,l6,l7⟩,_⟩:=Ac q0;have hTwr:=Aa q0;have ROWH:=Hz row;clear row;go_wp2_with fail;refine Au (fun w'=>w'.cell? ⟨T,6,none⟩=some (.slice (some ⟨g9,0,none⟩) 1 cp9)) (by kernel_rfl) (by kernel_rfl) ?hS1027 (fun K hK hHeld=>?hr1027)
 case hS1027=>go_keep
 refine Ae (i:=0) (v:=?v1028) rfl (by kernel_rfl) (by kernel_rfl) (by kernel_rfl) (fun _ _ _ h=>h) (Or.inl ⟨by rfl,?hy1028⟩) (by assumption) ?hr1028
 case hy1028 =>
  intro w' hSw
  (try dsimp only at hSw)
  go_simp
  (try with_reducible rfl)
 (try simp only[Act.put,sX])
 refine Ae (i:=1) (v:=?v1029) rfl (by kernel_rfl) (by kernel_rfl) (by kernel_rfl) (fun _ _ _ h=>h) (Or.inl ⟨by rfl,?hy1029⟩) (by assumption) ?hr1029
 case hy1029 =>
  intro w' hSw
  (try dsimp only at hSw)
  go_simp
  (try with_reducible rfl)
 (try simp only[Act.put,sX])
 refine Ae (i:=2) (v:=?v1030) rfl (by kernel_rfl) (by kernel_rfl) (by kernel_rfl) (fun _ _ _ h=>h) (Or.inl ⟨by rfl,?hy1030⟩) (by assumption) ?hr1030
 case hy1030 =>
  intro w' hSw
  (try dsimp only at hSw)
  go_simp
  (try with_reducible rfl)
 (try simp only[Act.put,sX])
 refine Ak (i:=3) rfl (by kernel_rfl) (fun K3 hK3=>?hr1031);go_simp;refine((cS _ (h0.fr (Fr.refl [] y2).drew)).out).mono ?_;rintro e x8 ⟨k2,a2,nm2,n2,s2,ls2,args2,arms2,A52,n52,c52,A62,n62,c62,A72,n72,c72,st7,rfl,hx2,hr2,hst7,f8⟩;have hst:=hst7;have Q8:=f8.keep (w:=y2.drew) q0 (by simp;omega);have hT8:=Aa Q8;have ROW9:=Aj.keep (w':=x8.alloc (.cells #[vI k2,vI a2,vS nm2,vI n2,vS s2,.slice A52 n52 c52,.slice A62 n62 c62,.slice A72 n72 c72] 27)) (ok':=fun b=>B<b∧¬ b=T∧¬ b=P) Al ROWH.out (Sh.of_fr (((Fr.refl [P] y2).drew.trans f8).alloc _) (fun b hb hlt=>⟨hb,by simp;exact hb.2.2⟩));go_simp;refine hK3.out _ _ ?hS1031 (fun hHeld=>?hq1031)
 case hS1031=>exact(Ac Q8).1.2.2.2.2.2.2.1
 clear hK3 K3
 (try simp only[Act.put,sX])
 refine Ak (i:=4) rfl (by kernel_rfl) (fun K4 hK4=>?hr1032);go_simp;refine hK4.out _ _ ?hS1032 (fun hHeld=>?hq1032)
 case hS1032=>exact Af (Ad Q8 _) 6
 clear hK4 K4
 (try simp only[Act.put,sX])
 refine Ak (i:=5) rfl (by kernel_rfl) (fun K5 hK5=>?hr1033);refine Az (by rfl) _ _ 24 (by rfl) 27 i0 _ 8 128 underlying24 HI.out HZ0.out HZ1.out HZ2.out rfl (by decide) (.slice (some ⟨g9,0,none⟩) 1 cp9) 1 (Cc (fun i=>if i=([]:List Ah).length then [vI k1,vI a1,vS nm1,vI n1,vS s1,.slice A51 n51 c51,.slice A61 n61 c61,.slice A71 n71 c71] else []) 1) (by rfl) ROW9.own ⟨x8.heap.size,0,none⟩ 1 1 [vI k2,vI a2,vS nm2,vI n2,vS s2,.slice A52 n52 c52,.slice A62 n62 c62,.slice A72 n72 c72] (by rfl) rfl (World.news_of_block (Ab x8 _)) (by simp[Value.oneCell']) (by decide) (by decide) ?_;intro v9 w9 hown9 hgrow9 hfp9;obtain⟨g8,cp8,hv9⟩:∃ g cap,v9 = .slice (some ⟨g,0,none⟩) (2) cap:=B9 hown9
 subst hv9;have Q9:=(hgrow9.block T (Aa (Ad Q8 (.cells #[vI k2,vI a2,vS nm2,vI n2,vS s2,.slice A52 n52 c52,.slice A62 n62 c62,.slice A72 n72 c72] 27))) (fun e=>(ROWH.out.blk T e.symm).2.1 rfl)).trans (Ad Q8 (.cells #[vI k2,vI a2,vS nm2,vI n2,vS s2,.slice A52 n52 c52,.slice A62 n62 c62,.slice A72 n72 c72] 27));have hT9:=Aa Q9;obtain⟨⟨u0,u1,u2,u3,u4,u5,u6,u7⟩,z0,z1,z2,z3,z4,z5,z6,z7⟩:=Ac Q9;refine hK5.out _ _ ?hS1033 (fun hHeld=>?hq1033)
 case hS1033=>exact u6
 clear hK5 K5
 (try simp only[Act.put,sX])
 refine Ae (i:=6) (v:=?v1034) rfl (by kernel_rfl) (by kernel_rfl) (by kernel_rfl) (fun _ _ _ h=>h) (Or.inl ⟨by rfl,?hy1034⟩) (by assumption) ?hr1034
 case hy1034 =>
  intro w' hSw
  (try dsimp only at hSw)
  go_simp
  (try with_reducible rfl)
 (try simp only[Act.put,sX])
 refine wpAnyH_done (by kernel_rfl) ?hr1035 _;refine As rfl ?hq1035;go_simp;refine hK.out _ _ ?hs1035;clear hK K;clear l0 l1 l2 l3 l4 l5 l6 l7 u0 u1 u2 u3 u4 u5 u6 u7 z0 z1 z2 z3 z4 z5 z6 z7;have f8:Fr [P] y2 x8:=((Fr.refl [P] y2).drew).trans f8;have row:=ROWH.out;obtain⟨F,g0,q0,h0,row,hsh,hnew,hsz⟩:=Ct (fld:=6) (size:=8) Al f8 hx2 rfl hst g0 q0 row F (by omega) (by omega) (by omega) (by omega) (by omega) (by omega) (by omega) hown9 hgrow9 hfp9 (VV':=#[vI 10,vI t.at',.string ⟨(Aq v ⟨st.i+1+1,st.ok⟩).toArray⟩,vI 0,vE,vZ,.slice (some ⟨g8,0,none⟩) 2 cp8,vZ]) rfl;clear ROWH ROW9 Q8 Q9 hown9 hgrow9 hfp9 f8 hst hT8 hT9 hTwr
 generalize w9.setCell ⟨T,6,none⟩ (.slice (some ⟨g8,0,none⟩) 2 cp8)=y3 at *
 clear hsh hnew hsz cS;have hBT2:=Aa g0;have row0:=Aj.keep (ok':=fun b=>B<b) Al row (Sh.of_fr (Fr.refl [] y3) (fun b hb hlt=>⟨hb.1,fun x=>by cases x⟩));obtain⟨⟨l0,l1,l2,l3,l4,l5,l6,l7⟩,_⟩:=Ac q0;obtain⟨⟨u0,u1,u2,u3,u4,u5,u6,u7⟩,z0,z1,z2,z3,z4,z5,z6,z7⟩:=Ac g0;clear row;have HG:=Hz (An g0 (vI 10) (vI t.at') (.string ⟨(Aq v ⟨st.i+1+1,st.ok⟩).toArray⟩) (vI 0) (vE) (vZ) (.slice (some ⟨g8,0,none⟩) 2 cp8) (vZ));have HF:=Hz ((F).step (Ag y3 B (vI 10) (vI t.at') (.string ⟨(Aq v ⟨st.i+1+1,st.ok⟩).toArray⟩) (vI 0) (vE) (vZ) (.slice (some ⟨g8,0,none⟩) 2 cp8) (vZ)) (fun x hx => .inr (by simp at hx;omega)));have HP:=Hz ((h0).frL (Ag y3 B (vI 10) (vI t.at') (.string ⟨(Aq v ⟨st.i+1+1,st.ok⟩).toArray⟩) (vI 0) (vE) (vZ) (.slice (some ⟨g8,0,none⟩) 2 cp8) (vZ)) (by simpa using nP) (by simpa using ng));have HR:=Hz (Aj.keep (ok':=fun b=>B≤b) Al row0 (Sh.of_fr (Ag y3 B (vI 10) (vI t.at') (.string ⟨(Aq v ⟨st.i+1+1,st.ok⟩).toArray⟩) (vI 0) (vE) (vZ) (.slice (some ⟨g8,0,none⟩) 2 cp8) (vZ)) (fun b hb hlt=>⟨by omega,by simp;omega⟩)));unfold st8 at HG HF HP HR;go_wp2_with fail;generalize (((((((y3.setCell ⟨B,0,none⟩ (vI 10)).setCell ⟨B,1,none⟩ (vI t.at')).setCell ⟨B,2,none⟩ (.string ⟨(Aq v ⟨st.i+1+1,st.ok⟩).toArray⟩)).setCell ⟨B,3,none⟩ (vI 0)).setCell ⟨B,4,none⟩ (vE)).setCell ⟨B,5,none⟩ (vZ)).setCell ⟨B,6,none⟩ (.slice (some ⟨g8,0,none⟩) 2 cp8)).setCell ⟨B,7,none⟩ (vZ)=Z at HG HF HP HR ⊢;obtain⟨⟨d0,d1,d2,d3,d4,d5,d6,d7⟩,_⟩:=Ac HG.out;have hxx:=Ai.of_rows (k:=10) (a:=t.at') (nm:=Aq v ⟨st.i+1+1,st.ok⟩) (n:=0) (s:=[]) (c5:=fun _=>[]) (c7:=fun _=>[]) Aj.nil_ HR.out Aj.nil_;refine bodyPost_ret (v:=.agg #[vI 10,vI t.at',.string ⟨(Aq v ⟨st.i+1+1,st.ok⟩).toArray⟩,vI 0,vE,vZ,.slice (some ⟨g8,0,none⟩) 2 cp8,vZ]) ?_ rfl ?_
 ·simp[results,Tryz.f33,go_sem,d0,d1,d2,d3,d4,d5,d6,d7]
 ·exact⟨_,_,_,_,_,_,_,_,_,_,_,_,_,_,_,_,_,_,rfl,by rw[hB];exact hxx,.look HT.out (.may_yes HT.out HB0.out (.thn (.may_yes hu (HRC.out u hu) (.name_ hv (.must_ hp (.callE hr1 (.must_ hq (.callE hr2 .retE)))))))),HP.out,HF.out⟩
theorem N2(ts:List Tok)(hE:Be ts)(N:Nat)(ih:Dp ts N)(P g c:Nat)(st:St)(w:World)(h:PSt P g c ts st w)(hm:16 *(ts.length-st.i)+12<N+1)(t:Tok)(ht:ts[st.i]?=some t)(hb0:isB t st.ok [[108,101,116]]=false)(hb1:isB t st.ok [[102,117,110]]=false)(hb2:isB t st.ok [[109,97,116,99,104]]=false)(hb3:isB t st.ok [[116,114,121]]=false)(hb4:isB t st.ok [[105,102]]=false)(hb5:isB t st.ok [[114,97,105,115,101]]=true):Calls prog 33 #[.pointer (some ⟨P,0,none⟩)] w (Fl P g c ts st (body .item) w):=by
 have HB0:=Hz hb0;clear hb0;have HB1:=Hz hb1;clear hb1;have HB2:=Hz hb2;clear hb2;have HB3:=Hz hb3;clear hb3;have HB4:=Hz hb4;clear hb4;have HB5:=Hz hb5;clear hb5;have H:=Hz h;have hP:=Aa h.blk;have hgl:=h.lt;have hin:=h.inb;have HN:=Hz hm;have HE:=Hz hE;have IH:=Hz ih;clear h hm hE ih;go_enter func33,ntmps33;go_wp2_with fail;have f0:Fr [] w (w.alloc (.cells #[vI 0,vI 0,vE,vI 0,vE,vZ,vZ,vZ] 27)):=(Fr.refl [] w).alloc _;have g0:=Ab w (.cells #[vI 0,vI 0,vE,vI 0,vE,vZ,vZ,vZ] 27)
 generalize w.alloc (.cells #[vI 0,vI 0,vE,vI 0,vE,vZ,vZ,vZ] 27)=w1 at *
 generalize hB:w.heap.size=B at *
 have hB1:=Aa g0;have nP:¬ P=B:=by omega
 have nB:¬ B=P:=by omega
 have ng:¬ g=B:=by omega
 have HT:=Hz ht;refine(Bd P g c ts st t ht w1 (H.out.fr f0) HE.out).mono ?_;rintro e x3 ⟨rfl,f3⟩;go_wp2_with fail;have q3:=Ab x3 (.cells #[vI t.k,vI t.at',.string ⟨t.text.toArray⟩,vI t.n] 46);have fb4:Fr [] x3 (x3.alloc (.cells #[vI t.k,vI t.at',.string ⟨t.text.toArray⟩,vI t.n] 46)):=(Fr.refl [] x3).alloc _
 generalize x3.alloc (.cells #[vI t.k,vI t.at',.string ⟨t.text.toArray⟩,vI t.n] 46)=x4 at *
 have hT4:=Aa q3;have hs3:=f3.size
 generalize x3.heap.size=T3 at *
 have f4:=(f0.trans f3).trans fb4;have g0:=(f3.trans fb4).keep g0 nE;have h4:=H.out.fr f4;have hPB:P<B:=by omega
 have hgB:g<B:=by omega
 have hBw:w.heap.size≤B:=by omega
 have hBT3:B<T3:=by have:=(f0.trans f3).size;have:=Aa g0;omega
 clear f0 f3 fb4;refine(may_no [108,101,116] P g c ts st t HT.out HB0.out x4 h4 HE.out).mono ?_;rintro e x4 ⟨rfl,f5⟩;go_wp2_with fail;have g0:=f5.keep g0 nE;have q3:=f5.keep q3 nE;have h4:=h4.fr f5;have f4:=f4.trans f5;have hs4:=f5.size;clear f5 hs4;have fa:=(Fr.refl [] x4).alloc (.cells #[.string ⟨[102,117,110].toArray⟩] 9);have ci:=fun cl=>Hz (Dx P g c ts st t HT.out x4.heap.size cl [[102,117,110]] (by simp) (x4.alloc (.cells #[.string ⟨[102,117,110].toArray⟩] 9)) (h4.fr fa) (Dc.one x4 [102,117,110] _) (by simp) HE.out)
 rw[HB1.out] at ci;go_wp2_with fail;refine(ci _).out.mono ?_;rintro e x4 ⟨rfl,f5⟩;go_wp2_with fail;have f5:=fa.trans f5;have g0:=f5.keep g0 nE;have q3:=f5.keep q3 nE;have h4:=h4.fr f5;have f4:=f4.trans f5;clear f5 fa ci;refine(may_no [109,97,116,99,104] P g c ts st t HT.out HB2.out x4 h4 HE.out).mono ?_;rintro e x4 ⟨rfl,f5⟩;go_wp2_with fail;have g0:=f5.keep g0 nE;have q3:=f5.keep q3 nE;have h4:=h4.fr f5;have f4:=f4.trans f5;have hs4:=f5.size;clear f5 hs4;refine(may_no [116,114,121] P g c ts st t HT.out HB3.out x4 h4 HE.out).mono ?_;rintro e x4 ⟨rfl,f5⟩;go_wp2_with fail;have g0:=f5.keep g0 nE;have q3:=f5.keep q3 nE;have h4:=h4.fr f5;have f4:=f4.trans f5;have hs4:=f5.size;clear f5 hs4;refine(may_no [105,102] P g c ts st t HT.out HB4.out x4 h4 HE.out).mono ?_;rintro e x4 ⟨rfl,f5⟩;go_wp2_with fail;have g0:=f5.keep g0 nE;have q3:=f5.keep q3 nE;have h4:=h4.fr f5;have f4:=f4.trans f5;have hs4:=f5.size;clear f5 hs4;refine(may_yes [114,97,105,115,101] P g c ts st t HT.out HB5.out x4 h4 HE.out).mono ?_;rintro e x5 ⟨rfl,h0,f5⟩;have g0:=f5.keep g0 (by simpa using nB);have q3:=f5.keep q3 (by simp;omega);have F:Fr [P] w x5:=(f4.mono (fun x hx=>by cases hx)).trans f5;have hs5:=Aa g0;clear f4 f5 h4 hT4 hs3;have cS:=fun W hW=>Hz (IH.out.post P g c ⟨st.i+1,st.ok⟩ W hW (by have:=HN.out;have:=h0.inb;simp only at this ⊢;omega))
 obtain⟨m0,m1,m2,m3,_⟩:=Am q3;have n3B:¬ T3=B:=by omega
 have nB3:¬ B=T3:=by omega
 go_wp2_with fail
 go_region_held3 (fun w'=>w'.cell? ⟨T3,1,none⟩=some (vI t.at')) (first|go_keep|exact M6.2.1) (((with_reducible refine(cS _ (h0.fr (Fr.refl [] x5).drew)).out.mono ?_);rintro e x6 ⟨k2,a2,nm2,n2,s2,ls2,args2,arms2,A52,n52,c52,A62,n62,c62,A72,n72,c72,st2,rfl,hx2,hr2,hst2,f6⟩;have Q6:=f6.keep (w:=x5.drew) q3 (by simp;omega);have hT6:=Aa Q6;have M6:=Am Q6;have G6:=f6.keep (w:=x5.drew) g0 (by simpa using nB);have hB6:=Aa G6;obtain⟨⟨u0,u1,u2,u3,u4,u5,u6,u7⟩,z0,z1,z2,z3,z4,z5,z6,z7⟩:=Ac G6))
 clear m0 m1 m2 m3 M6 u0 u1 u2 u3 u4 u5 u6 u7 z0 z1 z2 z3 z4 z5 z6 z7;have f6:Fr [P] x5 x6:=((Fr.refl [P] x5).drew).trans f6;have hx2:=hx2.keep (ok':=fun b=>B<b) (Sh.of_fr (Fr.refl [] x6) (fun b hb hlt=>⟨by have:x5.heap.size≤b:=hb;omega,fun x=>by cases x⟩));have HG:=Hz (An G6 (vI 18) (vI t.at') (vE) (vI 0) (vE) (vZ) (.slice (some ⟨x6.heap.size,0,none⟩) 1 1) (vZ));have HF:=Hz ((F.trans f6).step (Ag x6 B (vI 18) (vI t.at') (vE) (vI 0) (vE) (vZ) (.slice (some ⟨x6.heap.size,0,none⟩) 1 1) (vZ)) (fun x hx => .inr (by simp at hx;omega)));have HP:=Hz ((hst2).frL (Ag x6 B (vI 18) (vI t.at') (vE) (vI 0) (vE) (vZ) (.slice (some ⟨x6.heap.size,0,none⟩) 1 1) (vZ)) (by simpa using nP) (by simpa using ng));have HS:=Hz (C5 x6 B (vI 18) (vI t.at') (vE) (vI 0) (vE) (vZ) (.slice (some ⟨x6.heap.size,0,none⟩) 1 1) (vZ));have HX2:Hid (Ai (st8 x6 B (vI 18) (vI t.at') (vE) (vI 0) (vE) (vZ) (.slice (some ⟨x6.heap.size,0,none⟩) 1 1) (vZ)) (fun b=>B≤b) (.mk k2 a2 nm2 n2 s2 ls2 args2 arms2) [vI k2,vI a2,vS nm2,vI n2,vS s2,.slice A52 n52 c52,.slice A62 n62 c62,.slice A72 n72 c72]):=Hz ((hx2).keep (Sh.of_fr (Ag x6 B (vI 18) (vI t.at') (vE) (vI 0) (vE) (vZ) (.slice (some ⟨x6.heap.size,0,none⟩) 1 1) (vZ)) (fun b hb hlt=>⟨by omega,by simp;omega⟩)));unfold st8 at HG HF HP HS HX2;go_wp2_with fail;generalize (((((((x6.setCell ⟨B,0,none⟩ (vI 18)).setCell ⟨B,1,none⟩ (vI t.at')).setCell ⟨B,2,none⟩ (vE)).setCell ⟨B,3,none⟩ (vI 0)).setCell ⟨B,4,none⟩ (vE)).setCell ⟨B,5,none⟩ (vZ)).setCell ⟨B,6,none⟩ (.slice (some ⟨x6.heap.size,0,none⟩) 1 1)).setCell ⟨B,7,none⟩ (vZ)=Z at HG HF HP HS HX2 ⊢;obtain⟨⟨d0,d1,d2,d3,d4,d5,d6,d7⟩,_⟩:=Ac (Ad HG.out (.cells #[vI k2,vI a2,vS nm2,vI n2,vS s2,.slice A52 n52 c52,.slice A62 n62 c62,.slice A72 n72 c72] 27));have hBZ:B≤Z.heap.size:=by have:=Aa HG.out;omega
 have row:=Aj.lit Al (T:=27) (size:=8) HX2.out rfl (ok:=fun b=>B≤b) hBZ;rw[HS.out] at row;have hxx:=Ai.of_rows (k:=18) (a:=t.at') (nm:=[]) (n:=0) (s:=[]) (c5:=fun _=>[]) (c7:=fun _=>[]) Aj.nil_ row Aj.nil_;refine bodyPost_ret (v:=.agg #[vI 18,vI t.at',vE,vI 0,vE,vZ,.slice (some ⟨x6.heap.size,0,none⟩) 1 1,vZ]) ?_ rfl ?_
 ·simp[results,Tryz.f33,go_sem,d0,d1,d2,d3,d4,d5,d6,d7]
 ·exact⟨_,_,_,_,_,_,_,_,_,_,_,_,_,_,_,_,_,_,rfl,by rw[hB];exact hxx,.look HT.out (.may_no HT.out HB0.out (.els (.isC_ HT.out HB1.out (.els (.may_no HT.out HB2.out (.els (.may_no HT.out HB3.out (.els (.may_no HT.out HB4.out (.els (.may_yes HT.out HB5.out (.thn (.callE hr2 .retE))))))))))))),HP.out.fr ((Fr.refl [] Z).alloc _),HF.out.alloc _⟩
theorem item_or(ts:List Tok)(hE:Be ts)(N:Nat)(ih:Dp ts N)(P g c:Nat)(st:St)(w:World)(h:PSt P g c ts st w)(hm:16 *(ts.length-st.i)+12<N+1)(t:Tok)(ht:ts[st.i]?=some t)(hb0:isB t st.ok [[108,101,116]]=false)(hb1:isB t st.ok [[102,117,110]]=false)(hb2:isB t st.ok [[109,97,116,99,104]]=false)(hb3:isB t st.ok [[116,114,121]]=false)(hb4:isB t st.ok [[105,102]]=false)(hb5:isB t st.ok [[114,97,105,115,101]]=false):Calls prog 33 #[.pointer (some ⟨P,0,none⟩)] w (Fl P g c ts st (body .item) w):=by
 have HB0:=Hz hb0;clear hb0;have HB1:=Hz hb1;clear hb1;have HB2:=Hz hb2;clear hb2;have HB3:=Hz hb3;clear hb3;have HB4:=Hz hb4;clear hb4;have HB5:=Hz hb5;clear hb5;have H:=Hz h;have hP:=Aa h.blk;have hgl:=h.lt;have hin:=h.inb;have HN:=Hz hm;have HE:=Hz hE;have IH:=Hz ih;clear h hm hE ih;go_enter func33,ntmps33;go_wp2_with fail;have f0:Fr [] w (w.alloc (.cells #[vI 0,vI 0,vE,vI 0,vE,vZ,vZ,vZ] 27)):=(Fr.refl [] w).alloc _;have g0:=Ab w (.cells #[vI 0,vI 0,vE,vI 0,vE,vZ,vZ,vZ] 27)
 generalize w.alloc (.cells #[vI 0,vI 0,vE,vI 0,vE,vZ,vZ,vZ] 27)=w1 at *
 generalize hB:w.heap.size=B at *
 have hB1:=Aa g0;have nP:¬ P=B:=by omega
 have nB:¬ B=P:=by omega
 have ng:¬ g=B:=by omega
 have HT:=Hz ht;refine(Bd P g c ts st t ht w1 (H.out.fr f0) HE.out).mono ?_;rintro e x3 ⟨rfl,f3⟩;go_wp2_with fail;have q3:=Ab x3 (.cells #[vI t.k,vI t.at',.string ⟨t.text.toArray⟩,vI t.n] 46);have fb4:Fr [] x3 (x3.alloc (.cells #[vI t.k,vI t.at',.string ⟨t.text.toArray⟩,vI t.n] 46)):=(Fr.refl [] x3).alloc _
 generalize x3.alloc (.cells #[vI t.k,vI t.at',.string ⟨t.text.toArray⟩,vI t.n] 46)=x4 at *
 have hT4:=Aa q3;have hs3:=f3.size
 generalize x3.heap.size=T3 at *
 have f4:=(f0.trans f3).trans fb4;have g0:=(f3.trans fb4).keep g0 nE;have h4:=H.out.fr f4;have hPB:P<B:=by omega
 have hgB:g<B:=by omega
 have hBw:w.heap.size≤B:=by omega
 have hBT3:B<T3:=by have:=(f0.trans f3).size;have:=Aa g0;omega
 clear f0 f3 fb4;refine(may_no [108,101,116] P g c ts st t HT.out HB0.out x4 h4 HE.out).mono ?_;rintro e x4 ⟨rfl,f5⟩;go_wp2_with fail;have g0:=f5.keep g0 nE;have q3:=f5.keep q3 nE;have h4:=h4.fr f5;have f4:=f4.trans f5;have hs4:=f5.size;clear f5 hs4;have fa:=(Fr.refl [] x4).alloc (.cells #[.string ⟨[102,117,110].toArray⟩] 9);have ci:=fun cl=>Hz (Dx P g c ts st t HT.out x4.heap.size cl [[102,117,110]] (by simp) (x4.alloc (.cells #[.string ⟨[102,117,110].toArray⟩] 9)) (h4.fr fa) (Dc.one x4 [102,117,110] _) (by simp) HE.out)
 rw[HB1.out] at ci;go_wp2_with fail;refine(ci _).out.mono ?_;rintro e x4 ⟨rfl,f5⟩;go_wp2_with fail;have f5:=fa.trans f5;have g0:=f5.keep g0 nE;have q3:=f5.keep q3 nE;have h4:=h4.fr f5;have f4:=f4.trans f5;clear f5 fa ci;refine(may_no [109,97,116,99,104] P g c ts st t HT.out HB2.out x4 h4 HE.out).mono ?_;rintro e x4 ⟨rfl,f5⟩;go_wp2_with fail;have g0:=f5.keep g0 nE;have q3:=f5.keep q3 nE;have h4:=h4.fr f5;have f4:=f4.trans f5;have hs4:=f5.size;clear f5 hs4;refine(may_no [116,114,121] P g c ts st t HT.out HB3.out x4 h4 HE.out).mono ?_;rintro e x4 ⟨rfl,f5⟩;go_wp2_with fail;have g0:=f5.keep g0 nE;have q3:=f5.keep q3 nE;have h4:=h4.fr f5;have f4:=f4.trans f5;have hs4:=f5.size;clear f5 hs4;refine(may_no [105,102] P g c ts st t HT.out HB4.out x4 h4 HE.out).mono ?_;rintro e x4 ⟨rfl,f5⟩;go_wp2_with fail;have g0:=f5.keep g0 nE;have q3:=f5.keep q3 nE;have h4:=h4.fr f5;have f4:=f4.trans f5;have hs4:=f5.size;clear f5 hs4;refine(may_no [114,97,105,115,101] P g c ts st t HT.out HB5.out x4 h4 HE.out).mono ?_;rintro e x4 ⟨rfl,f5⟩;go_wp2_with fail;have g0:=f5.keep g0 nE;have q3:=f5.keep q3 nE;have h4:=h4.fr f5;have f4:=f4.trans f5;have hs4:=f5.size;clear f5 hs4;refine(IH.out.or P g c st x4 h4 (by have:=HN.out;omega)).mono ?_;rintro e x1 ⟨k1,a1,nm1,n1,s1,ls1,args1,arms1,A51,n51,c51,A61,n61,c61,A71,n71,c71,st1,rfl,hx1,hr1,hst1,f1⟩;have hBx4:=Aa g0;have g0:=f1.keep g0 (by simpa using nB);have hs1:=f1.size;have F1:Fr [P] w x1:=(f4.mono (fun x hx=>by cases hx)).trans f1;clear q3 f4 h4 hT4 hs3;go_wp2_with fail;have q1:=Ab x1 (.cells #[vI k1,vI a1,vS nm1,vI n1,vS s1,.slice A51 n51 c51,.slice A61 n61 c61,.slice A71 n71 c71] 27);have fb1:Fr [] x1 (x1.alloc (.cells #[vI k1,vI a1,vS nm1,vI n1,vS s1,.slice A51 n51 c51,.slice A61 n61 c61,.slice A71 n71 c71] 27)):=(Fr.refl [] x1).alloc _
 generalize hY1:x1.alloc (.cells #[vI k1,vI a1,vS nm1,vI n1,vS s1,.slice A51 n51 c51,.slice A61 n61 c61,.slice A71 n71 c71] 27)=x2 at *
 have hT1:=Aa q1
 generalize hTT1:x1.heap.size=T7 at *
 have g0:=fb1.keep g0 nE;have h2:=hst1.fr fb1;have F2:=F1.trans0 fb1;have hx1:=hx1.keep (ok':=fun b=>B<b∧¬ b=T7) (Sh.of_fr fb1 (fun b hb hlt=>⟨⟨by omega,by omega⟩,fun x=>by cases x⟩));obtain⟨v,hv⟩:=At hst1.inb;refine(Bd P g c ts st1 v hv x2 h2 HE.out).mono ?_;rintro e x3 ⟨rfl,f3⟩;go_wp2_with fail;have q4:=Ab x3 (.cells #[vI v.k,vI v.at',.string ⟨v.text.toArray⟩,vI v.n] 46);have fb4:Fr [] x3 (x3.alloc (.cells #[vI v.k,vI v.at',.string ⟨v.text.toArray⟩,vI v.n] 46)):=(Fr.refl [] x3).alloc _
 generalize hY4:x3.alloc (.cells #[vI v.k,vI v.at',.string ⟨v.text.toArray⟩,vI v.n] 46)=x4 at *
 have hT4:=Aa q4
 generalize hTT4:x3.heap.size=T8 at *
 have f4:=f3.trans fb4;have g0:=f4.keep g0 nE;have q1:=f4.keep q1 nE;have h4:=h2.fr f4;have F4:=F2.trans0 f4;have hs3:=f3.size;have hx1:=hx1.keep (ok':=fun b=>B<b∧¬ b=T7∧¬ b=T8) (Sh.of_fr f4 (fun b hb hlt=>⟨⟨hb.1,hb.2,by omega⟩,fun x=>by cases x⟩));have hle:=hr1.le
 cases hb:isB v st1.ok [[58,61]] with
 | false =>
  refine(may_no [58,61] P g c ts st1 v hv hb x4 h4 HE.out).mono ?_;rintro e x5 ⟨rfl,f5⟩;have g0:=f5.keep g0 nE;obtain⟨⟨l0,l1,l2,l3,l4,l5,l6,l7⟩,_⟩:=Ac (f5.keep q1 nE);have h5:=h4.fr f5;have hx1:=hx1.keep (ok':=fun b=>B<b) (Sh.of_fr f5 (fun b hb hlt=>⟨hb.1,fun x=>by cases x⟩));have HG:=Hz (An g0 (vI k1) (vI a1) (vS nm1) (vI n1) (vS s1) (.slice A51 n51 c51) (.slice A61 n61 c61) (.slice A71 n71 c71));have HF:=Hz ((F4.trans0 f5).step (Ag x5 B (vI k1) (vI a1) (vS nm1) (vI n1) (vS s1) (.slice A51 n51 c51) (.slice A61 n61 c61) (.slice A71 n71 c71)) (fun x hx => .inr (by simp at hx;omega)));have HP:=Hz ((h5).frL (Ag x5 B (vI k1) (vI a1) (vS nm1) (vI n1) (vS s1) (.slice A51 n51 c51) (.slice A61 n61 c61) (.slice A71 n71 c71)) (by simpa using nP) (by simpa using ng));have HX:Hid (Ai (st8 x5 B (vI k1) (vI a1) (vS nm1) (vI n1) (vS s1) (.slice A51 n51 c51) (.slice A61 n61 c61) (.slice A71 n71 c71)) (fun b=>B≤b) (.mk k1 a1 nm1 n1 s1 ls1 args1 arms1) [vI k1,vI a1,vS nm1,vI n1,vS s1,.slice A51 n51 c51,.slice A61 n61 c61,.slice A71 n71 c71]):=Hz ((hx1).keep (Sh.of_fr (Ag x5 B (vI k1) (vI a1) (vS nm1) (vI n1) (vS s1) (.slice A51 n51 c51) (.slice A61 n61 c61) (.slice A71 n71 c71)) (fun b hb hlt=>⟨by omega,by simp;omega⟩)));unfold st8 at HG HF HP HX;obtain⟨⟨u0,u1,u2,u3,u4,u5,u6,u7⟩,z0,z1,z2,z3,z4,z5,z6,z7⟩:=Ac g0;go_wp2_with fail;generalize (((((((x5.setCell ⟨B,0,none⟩ (vI k1)).setCell ⟨B,1,none⟩ (vI a1)).setCell ⟨B,2,none⟩ (vS nm1)).setCell ⟨B,3,none⟩ (vI n1)).setCell ⟨B,4,none⟩ (vS s1)).setCell ⟨B,5,none⟩ (.slice A51 n51 c51)).setCell ⟨B,6,none⟩ (.slice A61 n61 c61)).setCell ⟨B,7,none⟩ (.slice A71 n71 c71)=Z at HG HF HP HX ⊢;obtain⟨⟨d0,d1,d2,d3,d4,d5,d6,d7⟩,_⟩:=Ac HG.out;refine bodyPost_ret (v:=.agg #[vI k1,vI a1,vS nm1,vI n1,vS s1,.slice A51 n51 c51,.slice A61 n61 c61,.slice A71 n71 c71]) ?_ rfl ?_
  ·simp[results,Tryz.f33,go_sem,d0,d1,d2,d3,d4,d5,d6,d7]
  ·exact⟨_,_,_,_,_,_,_,_,_,_,_,_,_,_,_,_,_,_,rfl,by rw[hB];exact HX.out,.look HT.out (.may_no HT.out HB0.out (.els (.isC_ HT.out HB1.out (.els (.may_no HT.out HB2.out (.els (.may_no HT.out HB3.out (.els (.may_no HT.out HB4.out (.els (.may_no HT.out HB5.out (.els (.callE hr1 (.look hv (.may_no hv hb (.els .retE)))))))))))))))),HP.out,HF.out⟩
 | true =>
  refine(may_yes [58,61] P g c ts st1 v hv hb x4 h4 HE.out).mono ?_;rintro e x5 ⟨rfl,h5,f5⟩;have g0:=f5.keep g0 (by simpa using nB);have q1:=f5.keep q1 (by simp;omega);have q4:=f5.keep q4 (by simp;omega);have hs5:=f5.size;have F5:=F4.trans f5;have hx1:=hx1.keep (ok':=fun b=>B<b∧¬ b=T7∧¬ b=T8∧¬ b=P∧b<x5.heap.size) (Sh.of_fr f5 (fun b hb hlt=>⟨⟨hb.1,hb.2.1,hb.2.2,by omega,by omega⟩,by simp;omega⟩));obtain⟨⟨l0,l1,l2,l3,l4,l5,l6,l7⟩,_⟩:=Ac q1;obtain⟨m0,m1,m2,m3,_⟩:=Am q4;have cE:=fun W hW=>Hz (IH.out.item P g c ⟨st1.i+1,st1.ok⟩ W hW (by have:=HN.out;have:=h5.inb;simp only at this ⊢;omega))
  go_wp2_with fail;have n34:¬ T7=T8:=by omega
  have n3B:¬ T7=B:=by omega
  have nB3:¬ B=T7:=by omega
  have n4B:¬ T8=B:=by omega
  have nB4:¬ B=T8:=by omega
  clear fb1 fb4 f1 f3 f4 h2 h4 F1 F2 F4 hst1 H hY1 hY4
  go_region_held3 (fun w'=>(w'.cell? ⟨T8,0,none⟩=some (vI v.k)∧w'.cell? ⟨T8,1,none⟩=some (vI v.at')∧w'.cell? ⟨T8,2,none⟩=some (.string ⟨v.text.toArray⟩)∧w'.cell? ⟨T8,3,none⟩=some (vI v.n))∧(w'.cell? ⟨T7,0,none⟩=some (vI k1)∧w'.cell? ⟨T7,1,none⟩=some (vI a1)∧w'.cell? ⟨T7,2,none⟩=some (vS nm1)∧w'.cell? ⟨T7,3,none⟩=some (vI n1)∧w'.cell? ⟨T7,4,none⟩=some (vS s1)∧w'.cell? ⟨T7,5,none⟩=some (.slice A51 n51 c51)∧w'.cell? ⟨T7,6,none⟩=some (.slice A61 n61 c61)∧w'.cell? ⟨T7,7,none⟩=some (.slice A71 n71 c71))) (go_keep) ((first|((with_reducible refine(cE _ (h5.fr (Fr.refl [] x5).drew)).out.mono ?_);rintro e x6 ⟨k2,a2,nm2,n2,s2,ls2,args2,arms2,A52,n52,c52,A62,n62,c62,A72,n72,c72,st2,rfl,hx2,hr2,hst2,f6⟩;have Q1:=f6.keep (w:=x5.drew) q1 (by simp;omega);have Q4:=f6.keep (w:=x5.drew) q4 (by simp;omega);have G6:=f6.keep (w:=x5.drew) g0 (by simpa using nB);have hT36:=Aa Q1;have hT46:=Aa Q4;have hB6:=Aa G6;have M3:=(Ac Q1).1;have M4:=Am Q4)| ((with_reducible refine(Gj _ v _ _ _ _).mono ?_);rintro e x7 ⟨rfl,f7⟩;have R1:=f7.keep (Ad Q1 (.cells #[vI k1,vI a1,vS nm1,vI n1,vS s1,.slice A51 n51 c51,.slice A61 n61 c61,.slice A71 n71 c71,vI k2,vI a2,vS nm2,vI n2,vS s2,.slice A52 n52 c52,.slice A62 n62 c62,.slice A72 n72 c72] 27)) nE;have R4:=f7.keep (Ad Q4 (.cells #[vI k1,vI a1,vS nm1,vI n1,vS s1,.slice A51 n51 c51,.slice A61 n61 c61,.slice A71 n71 c71,vI k2,vI a2,vS nm2,vI n2,vS s2,.slice A52 n52 c52,.slice A62 n62 c62,.slice A72 n72 c72] 27)) nE;have G7:=f7.keep (Ad G6 (.cells #[vI k1,vI a1,vS nm1,vI n1,vS s1,.slice A51 n51 c51,.slice A61 n61 c61,.slice A71 n71 c71,vI k2,vI a2,vS nm2,vI n2,vS s2,.slice A52 n52 c52,.slice A62 n62 c62,.slice A72 n72 c72] 27)) nE;have hT37:=Aa R1;have hT47:=Aa R4;have hB7:=Aa G7;have M5:=(Ac R1).1;have M6:=Am R4;obtain⟨⟨u0,u1,u2,u3,u4,u5,u6,u7⟩,z0,z1,z2,z3,z4,z5,z6,z7⟩:=Ac G7)))
  all_goals
   clear M3 M4 M5 M6 u0 u1 u2 u3 u4 u5 u6 u7 z0 z1 z2 z3 z4 z5 z6 z7 l0 l1 l2 l3 l4 l5 l6 l7 m0 m1 m2 m3;have f6:Fr [P] x5 x6:=((Fr.refl [P] x5).drew).trans f6;have f7:Fr [] (x6.alloc (.cells #[vI k1,vI a1,vS nm1,vI n1,vS s1,.slice A51 n51 c51,.slice A61 n61 c61,.slice A71 n71 c71,vI k2,vI a2,vS nm2,vI n2,vS s2,.slice A52 n52 c52,.slice A62 n62 c62,.slice A72 n72 c72] 27)) x7:=f7;have hs6:=f6.size;have hx1:=hx1.keep (ok':=fun b=>B<b∧¬ b=P) (Sh.of_fr f6 (fun b hb hlt=>⟨⟨hb.1,hb.2.2.2.1⟩,by simp;exact hb.2.2.2.1⟩));have hx2:=hx2.keep (ok':=fun b=>B<b∧¬ b=P) (Sh.of_fr (Fr.refl [] x6) (fun b hb hlt=>⟨by have:x5.heap.size≤b:=hb;exact⟨by omega,by omega⟩,fun x=>by cases x⟩));have row6:=Aj.lit2 Al (T:=27) (size:=8) (ok:=fun b=>B<b∧¬ b=P) hx1 hx2 rfl rfl (by exact⟨by omega,by omega⟩);have row7:=Aj.keep (ok':=fun b=>B<b) Al row6 (Sh.of_fr f7 (fun b hb hlt=>⟨hb.1,fun x=>by cases x⟩));have HG:=Hz (An G7 (vI 19) (vI v.at') (vE) (vI 12) (vE) (vZ) (.slice (some ⟨x6.heap.size,0,none⟩) 2 2) (vZ));have HF:=Hz ((F5.trans (f6.trans0 (((Fr.refl [] x6).alloc _).trans f7))).step (Ag x7 B (vI 19) (vI v.at') (vE) (vI 12) (vE) (vZ) (.slice (some ⟨x6.heap.size,0,none⟩) 2 2) (vZ)) (fun x hx => .inr (by simp at hx;omega)));have HP:=Hz (((hst2.fr (((Fr.refl [] x6).alloc _).trans f7))).frL (Ag x7 B (vI 19) (vI v.at') (vE) (vI 12) (vE) (vZ) (.slice (some ⟨x6.heap.size,0,none⟩) 2 2) (vZ)) (by simpa using nP) (by simpa using ng));have HR:=Hz (Aj.keep (ok':=fun b=>B≤b) Al row7 (Sh.of_fr (Ag x7 B (vI 19) (vI v.at') (vE) (vI 12) (vE) (vZ) (.slice (some ⟨x6.heap.size,0,none⟩) 2 2) (vZ)) (fun b hb hlt=>⟨by omega,by simp;omega⟩)));unfold st8 at HG HF HP HR;go_wp2_with fail;generalize (((((((x7.setCell ⟨B,0,none⟩ (vI 19)).setCell ⟨B,1,none⟩ (vI v.at')).setCell ⟨B,2,none⟩ (vE)).setCell ⟨B,3,none⟩ (vI 12)).setCell ⟨B,4,none⟩ (vE)).setCell ⟨B,5,none⟩ (vZ)).setCell ⟨B,6,none⟩ (.slice (some ⟨x6.heap.size,0,none⟩) 2 2)).setCell ⟨B,7,none⟩ (vZ)=Z at HG HF HP HR ⊢;obtain⟨⟨d0,d1,d2,d3,d4,d5,d6,d7⟩,_⟩:=Ac HG.out;have hxx:=Ai.of_rows (k:=19) (a:=v.at') (nm:=[]) (n:=12) (s:=[]) (c5:=fun _=>[]) (c7:=fun _=>[]) Aj.nil_ HR.out Aj.nil_;refine bodyPost_ret (v:=.agg #[vI 19,vI v.at',vE,vI 12,vE,vZ,.slice (some ⟨x6.heap.size,0,none⟩) 2 2,vZ]) ?_ rfl ?_
   ·simp[results,Tryz.f33,go_sem,d0,d1,d2,d3,d4,d5,d6,d7]
   ·exact⟨_,_,_,_,_,_,_,_,_,_,_,_,_,_,_,_,_,_,rfl,by rw[hB];exact hxx,.look HT.out (.may_no HT.out HB0.out (.els (.isC_ HT.out HB1.out (.els (.may_no HT.out HB2.out (.els (.may_no HT.out HB3.out (.els (.may_no HT.out HB4.out (.els (.may_no HT.out HB5.out (.els (.callE hr1 (.look hv (.may_yes hv hb (.thn (.callE hr2 .retE))))))))))))))))),HP.out,HF.out⟩
end
end Go.Proofs.YtpjkfeehgookkaaGreatDoor
