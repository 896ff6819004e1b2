/- A part of the proof: It, Br2, Br5, Br. -/
import Derived.Deep.DrawnRows
import Derived.Test.YtpjkfeehgookkaaGreatDoorGn13
import Derived.Test.YtpjkfeehgookkaaGreatDoorGn14
import Derived.Test.YtpjkfeehgookkaaGreatDoorGn15
namespace Go.Proofs.YtpjkfeehgookkaaGreatDoor
open Go.RowKit
open _root_.Go.Proofs.Tryz
set_option linter.all false
set_option maxHeartbeats 16000000
set_option maxRecDepth 100000
theorem Pw(ts:List Tok)(hE:Be ts)(N:Nat)(ih:Dp ts N)(ihF:GF ts N)(ihA:GA ts N):GE ts (N+1) 12 .item 33:=by
 intro P g c st w h hm;obtain⟨t,ht⟩:=At h.inb
 cases h0:isB t st.ok [[108,101,116]] with
 | true =>
  cases hq:ts[st.i+1]? with
  | none=>exact Mc ts hE N ih P g c st w h hm t ht h0 (fun u hu=>by rw[hq] at hu;cases hu)
  | some u =>
   cases hr:isB u st.ok [[114,101,99]] with
   | false=>exact Mc ts hE N ih P g c st w h hm t ht h0 (fun u' hu=>by rw[hq] at hu;cases hu;exact hr)
   | true=>exact R0 ts hE N ih P g c st w h hm t ht h0 (fun u' hu=>by rw[hq] at hu;cases hu;exact hr)
 | false =>
  cases h1:isB t st.ok [[102,117,110]] with
  | true=>exact R2 ts hE N ih P g c st w h hm t ht h0 h1 ihF
  | false =>
   cases h2:isB t st.ok [[109,97,116,99,104]] with
   | true=>exact N1 ts hE N ih P g c st w h hm t ht h0 h1 h2 ihA
   | false =>
    cases h3:isB t st.ok [[116,114,121]] with
    | true=>exact R3 ts hE N ih P g c st w h hm t ht h0 h1 h2 h3 ihA
    | false =>
     cases h4:isB t st.ok [[105,102]] with
     | true=>exact item_if ts hE N ih P g c st w h hm t ht h0 h1 h2 h3 h4
     | false =>
      cases h5:isB t st.ok [[114,97,105,115,101]] with
      | true=>exact N2 ts hE N ih P g c st w h hm t ht h0 h1 h2 h3 h4 h5
      | false=>exact item_or ts hE N ih P g c st w h hm t ht h0 h1 h2 h3 h4 h5
section
attribute [local go_sem ↓] Go.wp_at_zero Go.wp_at_succ
theorem Gg(ts:List Tok)(hE:Be ts)(N:Nat)(ih:Dp ts N)(P g c:Nat)(st:St)(a:Int)(w:World)(h:PSt P g c ts st w)(hm:16 *(ts.length-st.i)+14<N+1)(t:Tok)(ht:ts[st.i]?=some t)(hb:isB t st.ok [[125]]=false)(n:Tok)(J:Nat)(hj:J=min (st.i+1) (ts.length-1))(hn:ts[J]?=some n)(hc:(t.k==1)=false∨(t.k==1)=true∧((n.k==7)=false∨(n.k==7)=true∧(n.text==[61])=false)):Calls prog 112 #[.pointer (some ⟨P,0,none⟩),.agg #[vI 0,vI a,vE,vI 0,vE,vZ,vZ,vZ]] w (Fl P g c ts st (body (.braces a)) w):=by
 have HB:=Hz hb;clear hb;have HJ:=Hz hj;clear hj;have HN_:=Hz hn;clear hn;have HCS:Hid ((t.k==1)=false∨(t.k==1)=true∧((n.k==7)=false∨(n.k==7)=true∧(n.text==[61])=false)):=Hz hc;clear hc;have HT:=Hz ht;clear ht;have IH:=Hz ih;clear ih;have H:=Hz h;have hP:=Aa h.blk;have hgl:=h.lt;have hin:=h.inb;have HN:=Hz hm;have HE:=Hz hE;clear h hm hE;go_enter func112,ntmps112;go_wp2_with fail;have f0:Fr [] w ((w.alloc (.cells #[vI 0,vI a,vE,vI 0,vE,vZ,vZ,vZ] 27)).alloc (.cells #[vI 0,vI 0,vE,vI 0,vE,vZ,vZ,vZ] 27)):=((Fr.refl [] w).alloc _).alloc _;have q0:=Ad (Ab w (.cells #[vI 0,vI a,vE,vI 0,vE,vZ,vZ,vZ] 27)) (.cells #[vI 0,vI 0,vE,vI 0,vE,vZ,vZ,vZ] 27);have g0:=Ab (w.alloc (.cells #[vI 0,vI a,vE,vI 0,vE,vZ,vZ,vZ] 27)) (.cells #[vI 0,vI 0,vE,vI 0,vE,vZ,vZ,vZ] 27);have hsz:(w.alloc (.cells #[vI 0,vI a,vE,vI 0,vE,vZ,vZ,vZ] 27)).heap.size=w.heap.size+1:=by simp
 rw[hsz] at g0;clear hsz;have h0:=H.out.fr f0;have F:=f0.mono (L':=[P]) (fun x hx=>by cases hx)
 generalize (w.alloc (.cells #[vI 0,vI a,vE,vI 0,vE,vZ,vZ,vZ] 27)).alloc (.cells #[vI 0,vI 0,vE,vI 0,vE,vZ,vZ,vZ] 27)=w1 at *
 generalize hT:w.heap.size=T at *
 generalize hB:T+1=B at *
 have hPT:P<T:=hP;have hgT:g<T:=hgl;clear f0 hP hgl;refine(may_no [125] P g c ts st t HT.out HB.out w1 h0 HE.out).mono ?_;rintro e x1 ⟨rfl,fm⟩;have g0:=fm.keep g0 nE;have q0:=fm.keep q0 nE;have F:=F.trans0 fm;have h0:=h0.fr fm;clear fm;go_wp2_with fail;obtain⟨p0,p1,p2,_⟩:=C2 h0.blk;have a0:=h0.rt.c0 _ _ HN_.out;have a1:=h0.rt.c1 _ _ HN_.out;have a2:=h0.rt.c2 _ _ HN_.out;have a3:=h0.rt.c3 _ _ HN_.out;have hPx:=Aa h0.blk;have hgx:=h0.lt;have hts:=HE.out.1;have hmin:min ((st.i:Int)+1) ((ts.length-1:Nat):Int)=(J:Int):=by have:=HJ.out;omega
 have hJ1:(0:Int)≤(J:Int):=by omega
 have hJ2:(J:Int)<(ts.length:Int):=by have:=HJ.out;omega
 have w1q:IntKind.i64.wrap ((st.i:Int)+1)=((st.i+1:Nat):Int):=(IntWalk.i64_in _ (by omega)).trans (by omega);have w2q:IntKind.i64.wrap ((ts.length:Int)-1)=((ts.length-1:Nat):Int):=(IntWalk.i64_in _ (by omega)).trans (by omega);refine Fu (fun w'=>w'.cell? ⟨P,0,none⟩=some (.slice (some ⟨g,0,none⟩) ts.length c)∧w'.cell? ⟨P,1,none⟩=some (vI (st.i:Nat))∧w'.cell? ⟨g,J * 4,none⟩=some (vI n.k)∧w'.cell? ⟨g,J * 4+1,none⟩=some (vI n.at')∧w'.cell? ⟨g,J * 4+2,none⟩=some (.string ⟨n.text.toArray⟩)∧w'.cell? ⟨g,J * 4+3,none⟩=some (vI n.n)) (by kernel_rfl) (by kernel_rfl) ?hS1000 (fun K hK hHeld=>?hr1000)
 case hS1000=>go_keep
 refine Ae (i:=0) (v:=?v1001) rfl (by kernel_rfl) (by kernel_rfl) (by kernel_rfl) (fun _ _ _ h=>h) (Or.inl ⟨by rfl,?hy1001⟩) (by assumption) ?hr1001
 case hy1001 =>
  intro w' hSw
  (try dsimp only at hSw)
  go_simp
  (try with_reducible rfl)
 (try simp only[Act.put,sX])
 refine Ae (i:=1) (v:=?v1002) rfl (by kernel_rfl) (by kernel_rfl) (by kernel_rfl) (fun _ _ _ h=>h) (Or.inl ⟨by rfl,?hy1002⟩) (by assumption) ?hr1002
 case hy1002 =>
  intro w' hSw
  (try dsimp only at hSw)
  go_simp
  (try with_reducible rfl)
 (try simp only[Act.put,sX])
 refine Ae (i:=2) (v:=?v1003) rfl (by kernel_rfl) (by kernel_rfl) (by kernel_rfl) (fun _ _ _ h=>h) (Or.inl ⟨by rfl,?hy1003⟩) (by assumption) ?hr1003
 case hy1003 =>
  intro w' hSw
  (try dsimp only at hSw)
  go_simp
  (try with_reducible rfl)
 (try simp only[Act.put,sX])
 refine Ae (i:=3) (v:=?v1004) rfl (by kernel_rfl) (by kernel_rfl) (by kernel_rfl) (fun _ _ _ h=>h) (Or.inl ⟨by rfl,?hy1004⟩) (by assumption) ?hr1004
 case hy1004 =>
  intro w' hSw
  (try dsimp only at hSw)
  go_simp
  (try with_reducible rfl)
 (try simp only[Act.put,sX])
 refine Ae (i:=4) (v:=?v1005) rfl (by kernel_rfl) (by kernel_rfl) (by kernel_rfl) (fun _ _ _ h=>h) (Or.inl ⟨by rfl,?hy1005⟩) (by assumption) ?hr1005
 case hy1005 =>
  intro w' hSw
  (try dsimp only at hSw)
  go_simp
  (try with_reducible rfl)
 (try simp only[Act.put,sX])
 refine Ae (i:=5) (v:=?v1006) rfl (by kernel_rfl) (by kernel_rfl) (by kernel_rfl) (fun _ _ _ h=>h) (Or.inl ⟨by rfl,?hy1006⟩) (by assumption) ?hr1006
 case hy1006 =>
  intro w' hSw
  (try dsimp only at hSw)
  go_simp
  (try with_reducible rfl)
 (try simp only[Act.put,sX])
 refine Ae (i:=6) (v:=?v1007) rfl (by kernel_rfl) (by kernel_rfl) (by kernel_rfl) (fun _ _ _ h=>h) (Or.inl ⟨by rfl,?hy1007⟩) (by assumption) ?hr1007
 case hy1007 =>
  intro w' hSw
  (try dsimp only at hSw)
  go_simp
  (try with_reducible rfl)
 (try simp only[Act.put,sX])
 refine Ae (i:=7) (v:=?v1008) rfl (by kernel_rfl) (by kernel_rfl) (by kernel_rfl) (fun _ _ _ h=>h) (Or.inl ⟨by rfl,?hy1008⟩) (by assumption) ?hr1008
 case hy1008 =>
  intro w' hSw
  (try dsimp only at hSw)
  go_simp
  (try with_reducible rfl)
 (try simp only[Act.put,sX])
 refine Ae (i:=8) (v:=?v1009) rfl (by kernel_rfl) (by kernel_rfl) (by kernel_rfl) (fun _ _ _ h=>h) (Or.inl ⟨by rfl,?hy1009⟩) (by assumption) ?hr1009
 case hy1009 =>
  intro w' hSw
  (try dsimp only at hSw)
  go_simp
  (try with_reducible rfl)
 (try simp only[Act.put,sX])
 refine Ae (i:=9) (v:=?v1010) rfl (by kernel_rfl) (by kernel_rfl) (by kernel_rfl) (fun _ _ _ h=>h) (Or.inl ⟨by rfl,?hy1010⟩) (by assumption) ?hr1010
 case hy1010 =>
  intro w' hSw
  (try dsimp only at hSw)
  go_simp
  (try with_reducible rfl)
 (try simp only[Act.put,sX])
 refine Ae (i:=10) (v:=?v1011) rfl (by kernel_rfl) (by kernel_rfl) (by kernel_rfl) (fun _ _ _ h=>h) (Or.inl ⟨by rfl,?hy1011⟩) (by assumption) ?hr1011
 case hy1011 =>
  intro w' hSw
  (try dsimp only at hSw)
  go_simp
  (try with_reducible rfl)
 (try simp only[Act.put,sX])
 refine Ae (i:=11) (v:=?v1012) rfl (by kernel_rfl) (by kernel_rfl) (by kernel_rfl) (fun _ _ _ h=>h) (Or.inl ⟨by rfl,?hy1012⟩) (by assumption) ?hr1012
 case hy1012 =>
  intro w' hSw
  (try dsimp only at hSw)
  go_simp
  (try with_reducible rfl)
 (try simp only[Act.put,sX])
 refine Ae (i:=12) (v:=?v1013) rfl (by kernel_rfl) (by kernel_rfl) (by kernel_rfl) (fun _ _ _ h=>h) (Or.inl ⟨by rfl,?hy1013⟩) (by assumption) ?hr1013
 case hy1013 =>
  intro w' hSw
  (try dsimp only at hSw)
  go_simp
  (try with_reducible rfl)
 (try simp only[Act.put,sX])
 refine Ae (i:=13) (v:=?v1014) rfl (by kernel_rfl) (by kernel_rfl) (by kernel_rfl) (fun _ _ _ h=>h) (Or.inl ⟨by rfl,?hy1014⟩) (by assumption) ?hr1014
 case hy1014 =>
  intro w' hSw
  (try dsimp only at hSw)
  go_simp
  (try with_reducible rfl)
 (try simp only[Act.put,sX])
 refine Ae (i:=14) (v:=?v1015) rfl (by kernel_rfl) (by kernel_rfl) (by kernel_rfl) (fun _ _ _ h=>h) (Or.inl ⟨by rfl,?hy1015⟩) (by assumption) ?hr1015
 case hy1015 =>
  intro w' hSw
  (try dsimp only at hSw)
  go_simp
  (try with_reducible rfl)
 (try simp only[Act.put,sX])
 refine Ae (i:=15) (v:=?v1016) rfl (by kernel_rfl) (by kernel_rfl) (by kernel_rfl) (fun _ _ _ h=>h) (Or.inl ⟨by rfl,?hy1016⟩) (by assumption) ?hr1016
 case hy1016 =>
  intro w' hSw
  (try dsimp only at hSw)
  go_simp
  (try with_reducible rfl)
 (try simp only[Act.put,sX])
 refine Ae (i:=16) (v:=?v1017) rfl (by kernel_rfl) (by kernel_rfl) (by kernel_rfl) (fun _ _ _ h=>h) (Or.inl ⟨by rfl,?hy1017⟩) (by assumption) ?hr1017
 case hy1017 =>
  intro w' hSw
  (try dsimp only at hSw)
  go_simp
  (try with_reducible rfl)
 (try simp only[Act.put,sX])
 refine Ae (i:=17) (v:=?v1018) rfl (by kernel_rfl) (by kernel_rfl) (by kernel_rfl) (fun _ _ _ h=>h) (Or.inl ⟨by rfl,?hy1018⟩) (by assumption) ?hr1018
 case hy1018 =>
  intro w' hSw
  (try dsimp only at hSw)
  go_simp
  (try with_reducible rfl)
 (try simp only[Act.put,sX])
 refine Ak (i:=18) rfl (by kernel_rfl) (fun K18 hK18=>?hr1019);go_simp;refine hK18.out _ _ ?hS1019 (fun hHeld=>?hq1019)
 case hS1019=>go_keep
 clear hK18 K18
 (try simp only[Act.put,sX])
 refine wpAnyH_done (by kernel_rfl) ?hr1020 _;refine As rfl ?hq1020;go_simp;refine hK.out _ _ ?hs1020;clear hK K;clear p0 p1 p2 a0 a1 a2 a3 hHeld hmin hJ1 hJ2 w1q w2q;have fd:Fr [] x1 ((x1.alloc (.cells #[vI n.k,vI n.at',.string ⟨n.text.toArray⟩,vI n.n] 46)).drew):=((Fr.refl [] x1).alloc _).drew;have q5:((x1.alloc (.cells #[vI n.k,vI n.at',.string ⟨n.text.toArray⟩,vI n.n] 46)).drew).heap[x1.heap.size]?=some (.cells #[vI n.k,vI n.at',.string ⟨n.text.toArray⟩,vI n.n] 46 (0,0)):=Ab x1 (.cells #[vI n.k,vI n.at',.string ⟨n.text.toArray⟩,vI n.n] 46);have hBx1:=Aa g0;have hTx1:=Aa q0;have g0:=fd.keep g0 nE;have q0:=fd.keep q0 nE;have h0:=h0.fr fd;have F:=F.trans0 fd
 generalize (x1.alloc (.cells #[vI n.k,vI n.at',.string ⟨n.text.toArray⟩,vI n.n] 46)).drew=x2 at *
 generalize x1.heap.size=TN at *
 clear fd;go_wp2_with fail;refine(Bd P g c ts st t HT.out x2 h0 HE.out).mono ?_;rintro e x3 ⟨rfl,f3⟩;have g0:=f3.keep g0 nE;have q0:=f3.keep q0 nE;have q5:=f3.keep q5 nE;have h0:=h0.fr f3;have F:=F.trans0 f3;have r0:=Hl;have hTN:=Aa q5;obtain⟨y0,y1,y2,y3,_⟩:=Am q5;clear f3
 rcases HCS.out with hk|⟨hk,hk7|⟨hk7,hx⟩⟩
 all_goals
  obtain⟨⟨m0,m1,m2,m3,m4,m5,m6,m7⟩,j0,j1,j2,j3,j4,j5,j6,j7⟩:=Ac q0;have hTx:=Aa q0;have q1:(x3.setCell ⟨T,0,none⟩ (vI 13)).heap[T]?=some (.cells #[vI 13,vI a,vE,vI 0,vE,vZ,vZ,vZ] 27 (0,0)):=Bi q0 0 _;have fs:=(Fr.refl [T] x3).setCell (p:=⟨T,0,none⟩) (.inl (by simp)) (vI 13);have g0:=fs.keep g0 (by simp;omega);have h0:=h0.frL fs (by simp;omega) (by simp;omega);have F:=F.step fs (fun x hx => .inr (by simp at hx;omega));have HQ:=Hz q1;clear q0 q1 fs;go_wp2_with fail;clear m0 m1 m2 m3 m4 m5 m6 m7 j0 j1 j2 j3 j4 j5 j6 j7;have q0:=HQ.out;clear HQ
  generalize x3.setCell ⟨T,0,none⟩ (vI 13)=x3n at *
  clear y0 y1 y2 y3 q5 r0 hk
  try clear hk7
  try clear hx
  refine(IH.out.seq P g c st x3n h0 (by have:=HN.out;have:=h0.inb;omega)).mono ?_;rintro e x4 ⟨k1,a1,nm1,n1,s1,ls1,args1,arms1,A51,n51,c51,A61,n61,c61,A71,n71,c71,st1,rfl,hx1,hr1,hst1,f1⟩;have hw1:=Aa g0;have hT1:=Aa q0;have g0:=f1.keep g0 (by simp;omega);have q0:=f1.keep q0 (by simp;omega);have F:=F.trans f1;have hs1:=f1.size;have hxs:=Aa g0;obtain⟨⟨m0,m1,m2,m3,m4,m5,m6,m7⟩,j0,j1,j2,j3,j4,j5,j6,j7⟩:=Ac q0;have hTx:=Aa q0;have q1:(x4.setCell ⟨T,6,none⟩ (.slice (some ⟨x4.heap.size,0,none⟩) 1 1)).heap[T]?=some (.cells #[vI 13,vI a,vE,vI 0,vE,vZ,.slice (some ⟨x4.heap.size,0,none⟩) 1 1,vZ] 27 (0,0)):=Bi q0 6 _;have fs:=(Fr.refl [T] x4).setCell (p:=⟨T,6,none⟩) (.inl (by simp)) (.slice (some ⟨x4.heap.size,0,none⟩) 1 1);have g1:=fs.keep g0 (by simp;omega);have h1:=hst1.frL fs (by simp;omega) (by simp;omega);have F1:=F.step fs (fun x hx => .inr (by simp at hx;omega));have hx1:=hx1.keep (ok':=fun b=>B<b∧¬ b=T∧¬ b=P) (Sh.of_fr fs (fun b hb hlt=>⟨by have:x3n.heap.size≤b:=hb;exact⟨by omega,by omega,by omega⟩,by have:x3n.heap.size≤b:=hb;simp;omega⟩));have hss:(x4.setCell ⟨T,6,none⟩ (.slice (some ⟨x4.heap.size,0,none⟩) 1 1)).heap.size=x4.heap.size:=by simp[World.setCell]
  have row:=Aj.lit Al (T:=27) (size:=8) (ok:=fun b=>B<b∧¬ b=T∧¬ b=P) hx1 rfl (by rw[hss];exact⟨by omega,by omega,by omega⟩);rw[hss] at row;have HQ:=Hz (Ad q1 (.cells #[vI k1,vI a1,vS nm1,vI n1,vS s1,.slice A51 n51 c51,.slice A61 n61 c61,.slice A71 n71 c71] 27));have HG1:=Hz (Ad g1 (.cells #[vI k1,vI a1,vS nm1,vI n1,vS s1,.slice A51 n51 c51,.slice A61 n61 c61,.slice A71 n71 c71] 27));have HH1:=Hz (h1.fr ((Fr.refl [] (x4.setCell ⟨T,6,none⟩ (.slice (some ⟨x4.heap.size,0,none⟩) 1 1))).alloc (.cells #[vI k1,vI a1,vS nm1,vI n1,vS s1,.slice A51 n51 c51,.slice A61 n61 c61,.slice A71 n71 c71] 27)));have HF1:=Hz (F1.alloc (.cells #[vI k1,vI a1,vS nm1,vI n1,vS s1,.slice A51 n51 c51,.slice A61 n61 c61,.slice A71 n71 c71] 27));have ROW1:=Hz row;clear q0 q1 g0 g1 h1 F1 F fs row hx1 hst1 hss h0;go_wp2_with fail;clear m0 m1 m2 m3 m4 m5 m6 m7 j0 j1 j2 j3 j4 j5 j6 j7
  generalize (x4.setCell ⟨T,6,none⟩ (.slice (some ⟨x4.heap.size,0,none⟩) 1 1)).alloc (.cells #[vI k1,vI a1,vS nm1,vI n1,vS s1,.slice A51 n51 c51,.slice A61 n61 c61,.slice A71 n71 c71] 27)=x5 at *
  generalize x4.heap.size=gz at *
  have q0:=HQ.out;have g0:=HG1.out;have h0:=HH1.out;have F:=HF1.out;have row:=ROW1.out;clear HQ HG1 HH1 HF1 ROW1 f1;obtain⟨p,hp⟩:=At h0.inb;refine(Bc [119,105,116,104] P g c ts st1 p hp x5 h0 HE.out).mono ?_;rintro e y6 ⟨rfl,h0,fm⟩;have g0:=fm.keep g0 (by simp;omega);have q0:=fm.keep q0 (by simp;omega);have F:=F.trans fm;have row:=Aj.keep (ok':=fun b=>B<b∧¬ b=T∧¬ b=P) Al row (Sh.of_fr fm (fun b hb hlt=>⟨hb,by simp;exact hb.2.2⟩));clear fm;go_wp2_with fail;obtain⟨v,hv⟩:=At h0.inb;refine(Fb P g c ts (A4 p st1 [119,105,116,104]) v hv y6 h0 HE.out).mono ?_;rintro e x8 ⟨rfl,h0,fm⟩;have g0:=fm.keep g0 (by simp;omega);have q0:=fm.keep q0 (by simp;omega);have F:=F.trans fm;have row:=Aj.keep (ok':=fun b=>B<b∧¬ b=T∧¬ b=P) Al row (Sh.of_fr fm (fun b hb hlt=>⟨hb,by simp;exact hb.2.2⟩));obtain⟨⟨m0,m1,m2,m3,m4,m5,m6,m7⟩,j0,j1,j2,j3,j4,j5,j6,j7⟩:=Ac q0;have hTx:=Aa q0;have q1:(x8.setCell ⟨T,2,none⟩ (.string ⟨(Aq v (A4 p st1 [119,105,116,104])).toArray⟩)).heap[T]?=some (.cells #[vI 13,vI a,.string ⟨(Aq v (A4 p st1 [119,105,116,104])).toArray⟩,vI 0,vE,vZ,.slice (some ⟨gz,0,none⟩) 1 1,vZ] 27 (0,0)):=Bi q0 2 _;have fs:=(Fr.refl [T] x8).setCell (p:=⟨T,2,none⟩) (.inl (by simp)) (.string ⟨(Aq v (A4 p st1 [119,105,116,104])).toArray⟩);have g0:=fs.keep g0 (by simp;omega);have h0:=h0.frL fs (by simp;omega) (by simp;omega);have F:=F.step fs (fun x hx => .inr (by simp at hx;omega));have row:=Aj.keep (ok':=fun b=>B<b∧¬ b=T∧¬ b=P) Al row (Sh.of_fr fs (fun b hb hlt=>⟨hb,by simp;exact hb.2.1⟩));have HQ:=Hz q1;clear q0 q1 fs;go_wp2_with fail;clear m0 m1 m2 m3 m4 m5 m6 m7 j0 j1 j2 j3 j4 j5 j6 j7;have q0:=HQ.out;clear HQ
  generalize x8.setCell ⟨T,2,none⟩ (.string ⟨(Aq v (A4 p st1 [119,105,116,104])).toArray⟩)=x8n at *
  obtain⟨q,hq⟩:=At h0.inb;refine(Bc [61] P g c ts (Cd v (A4 p st1 [119,105,116,104])) q hq x8n h0 HE.out).mono ?_;rintro e y0 ⟨rfl,h0,fm⟩;have g0:=fm.keep g0 (by simp;omega);have q0:=fm.keep q0 (by simp;omega);have F:=F.trans fm;have row:=Aj.keep (ok':=fun b=>B<b∧¬ b=T∧¬ b=P) Al row (Sh.of_fr fm (fun b hb hlt=>⟨hb,by simp;exact hb.2.2⟩));clear fm;obtain⟨i0,hi,hz0,hz1,hz2⟩:=info_parts Ef;have HI:=Hz hi;have HZ0:=Hz hz0;have HZ1:=Hz hz1;have HZ2:=Hz hz2;clear hi hz0 hz1 hz2;have hle1:=hr1.le;have hle2:=B3 p st1 [119,105,116,104];have hle3:=E0 v (A4 p st1 [119,105,116,104]);have hle4:=B3 q (Cd v (A4 p st1 [119,105,116,104])) [61];have cS:=fun W hW=>Hz (IH.out.seq P g c (A4 q (Cd v (A4 p st1 [119,105,116,104])) [61]) W hW (by have:=HN.out;have:=h0.inb;omega))
  obtain⟨⟨l0,l1,l2,l3,l4,l5,l6,l7⟩,_⟩:=Ac q0;have hTwr:=Aa q0;have ROWH:=Hz row;clear row;go_wp2_with fail;refine Au (fun w'=>w'.cell? ⟨T,6,none⟩=some (.slice (some ⟨gz,0,none⟩) 1 1)) (by kernel_rfl) (by kernel_rfl) ?_ (fun K hK hHeld=>?_)
  ·go_keep
  refine Ae (i:=0) (v:=?_) rfl (by kernel_rfl) (by kernel_rfl) (by kernel_rfl) (fun _ _ _ h=>h) (Or.inl ⟨by rfl,?_⟩) (by assumption) ?_
  rotate_left
  ·intro w' hSw
   (try dsimp only at hSw)
   go_simp
   (try with_reducible rfl)
  (try simp only[Act.put,sX])
  refine Ae (i:=1) (v:=?_) rfl (by kernel_rfl) (by kernel_rfl) (by kernel_rfl) (fun _ _ _ h=>h) (Or.inl ⟨by rfl,?_⟩) (by assumption) ?_
  rotate_left
  ·intro w' hSw
   (try dsimp only at hSw)
   go_simp
   (try with_reducible rfl)
  (try simp only[Act.put,sX])
  refine Ae (i:=2) (v:=?_) rfl (by kernel_rfl) (by kernel_rfl) (by kernel_rfl) (fun _ _ _ h=>h) (Or.inl ⟨by rfl,?_⟩) (by assumption) ?_
  rotate_left
  ·intro w' hSw
   (try dsimp only at hSw)
   go_simp
   (try with_reducible rfl)
  (try simp only[Act.put,sX])
  refine Ak (i:=3) rfl (by kernel_rfl) (fun K3 hK3=>?_);go_simp;refine((cS _ (h0.fr (Fr.refl [] y0).drew)).out).mono ?_;rintro e x8 ⟨k2,a2,nm2,n2,s2,ls2,args2,arms2,A52,n52,c52,A62,n62,c62,A72,n72,c72,st5,rfl,hx2,hr2,hst5,f8⟩;have hst:=hst5;have Q8:=f8.keep (w:=y0.drew) q0 (by simp;omega);have hT8:=Aa Q8;have ROW9:=Aj.keep (w':=x8.alloc (.cells #[vI k2,vI a2,vS nm2,vI n2,vS s2,.slice A52 n52 c52,.slice A62 n62 c62,.slice A72 n72 c72] 27)) (ok':=fun b=>B<b∧¬ b=T∧¬ b=P) Al ROWH.out (Sh.of_fr (((Fr.refl [P] y0).drew.trans f8).alloc _) (fun b hb hlt=>⟨hb,by simp;exact hb.2.2⟩));go_simp;refine hK3.out _ _ ?_ (fun hHeld=>?_)
  ·exact(Ac Q8).1.2.2.2.2.2.2.1
  clear hK3 K3
  (try simp only[Act.put,sX])
  refine Ak (i:=4) rfl (by kernel_rfl) (fun K4 hK4=>?_);go_simp;refine hK4.out _ _ ?_ (fun hHeld=>?_)
  ·exact Af (Ad Q8 _) 6
  clear hK4 K4
  (try simp only[Act.put,sX])
  refine Ak (i:=5) rfl (by kernel_rfl) (fun K5 hK5=>?_);refine Az (by rfl) _ _ 24 (by rfl) 27 i0 _ 8 128 underlying24 HI.out HZ0.out HZ1.out HZ2.out rfl (by decide) (.slice (some ⟨gz,0,none⟩) 1 1) 1 (Cc (fun _=>[vI k1,vI a1,vS nm1,vI n1,vS s1,.slice A51 n51 c51,.slice A61 n61 c61,.slice A71 n71 c71]) 1) (by rfl) ROW9.own ⟨x8.heap.size,0,none⟩ 1 1 [vI k2,vI a2,vS nm2,vI n2,vS s2,.slice A52 n52 c52,.slice A62 n62 c62,.slice A72 n72 c72] (by rfl) rfl (World.news_of_block (Ab x8 _)) (by simp[Value.oneCell']) (by decide) (by decide) ?_;intro v9 w9 hown9 hgrow9 hfp9;obtain⟨g9,cp9,hv9⟩:∃ g cap,v9 = .slice (some ⟨g,0,none⟩) (2) cap:=B9 hown9
  subst hv9;have Q9:=(hgrow9.block T (Aa (Ad Q8 (.cells #[vI k2,vI a2,vS nm2,vI n2,vS s2,.slice A52 n52 c52,.slice A62 n62 c62,.slice A72 n72 c72] 27))) (fun e=>(ROWH.out.blk T e.symm).2.1 rfl)).trans (Ad Q8 (.cells #[vI k2,vI a2,vS nm2,vI n2,vS s2,.slice A52 n52 c52,.slice A62 n62 c62,.slice A72 n72 c72] 27));have hT9:=Aa Q9;obtain⟨⟨u0,u1,u2,u3,u4,u5,u6,u7⟩,z0,z1,z2,z3,z4,z5,z6,z7⟩:=Ac Q9;refine hK5.out _ _ ?_ (fun hHeld=>?_)
  ·exact u6
  clear hK5 K5
  (try simp only[Act.put,sX])
  refine Ae (i:=6) (v:=?_) rfl (by kernel_rfl) (by kernel_rfl) (by kernel_rfl) (fun _ _ _ h=>h) (Or.inl ⟨by rfl,?_⟩) (by assumption) ?_
  rotate_left
  ·intro w' hSw
   (try dsimp only at hSw)
   go_simp
   (try with_reducible rfl)
  (try simp only[Act.put,sX])
  refine wpAnyH_done (by kernel_rfl) ?_ _;refine As rfl ?_;go_simp;refine hK.out _ _ ?_;clear hK K;clear l0 l1 l2 l3 l4 l5 l6 l7 u0 u1 u2 u3 u4 u5 u6 u7 z0 z1 z2 z3 z4 z5 z6 z7;have f8:Fr [P] y0 x8:=((Fr.refl [P] y0).drew).trans f8;have row:=ROWH.out;obtain⟨F,g0,q0,h0,row,hsh,hnew,hsz⟩:=Ct (fld:=6) (size:=8) Al f8 hx2 rfl hst g0 q0 row F (by omega) (by omega) (by omega) (by omega) (by omega) (by omega) (by omega) hown9 hgrow9 hfp9 (VV':=#[vI 13,vI a,.string ⟨(Aq v (A4 p st1 [119,105,116,104])).toArray⟩,vI 0,vE,vZ,.slice (some ⟨g9,0,none⟩) 2 cp9,vZ]) rfl;clear ROWH ROW9 Q8 Q9 hown9 hgrow9 hfp9 f8 hst hT8 hT9 hTwr
  generalize w9.setCell ⟨T,6,none⟩ (.slice (some ⟨g9,0,none⟩) 2 cp9)=y1 at *
  clear hsh hnew hsz cS;go_wp2_with fail;obtain⟨q2,hq2⟩:=At h0.inb;refine(Bc [125] P g c ts st5 q2 hq2 y1 h0 HE.out).mono ?_;rintro e y2 ⟨rfl,h0,fm⟩;have g0:=fm.keep g0 (by simp;omega);have q0:=fm.keep q0 (by simp;omega);have F:=F.trans fm;have row:=Aj.keep (ok':=fun b=>B<b∧¬ b=T∧¬ b=P) Al row (Sh.of_fr fm (fun b hb hlt=>⟨hb,by simp;exact hb.2.2⟩));clear fm;have rowE:=Aj.keep (ok':=fun b=>B<b) Al row (Sh.of_fr (Fr.refl [] y2) (fun b hb hlt=>⟨hb.1,fun x=>by cases x⟩));clear row;have hBlt:=Aa g0;have hTlt:=Aa q0;obtain⟨⟨l0,l1,l2,l3,l4,l5,l6,l7⟩,_⟩:=Ac q0;obtain⟨⟨u0_,u1,u2,u3,u4,u5,u6,u7⟩,z0,z1,z2,z3,z4,z5,z6,z7⟩:=Ac g0;have HG:=Hz (An g0 (vI 13) (vI a) (.string ⟨(Aq v (A4 p st1 [119,105,116,104])).toArray⟩) (vI 0) (vE) (vZ) (.slice (some ⟨g9,0,none⟩) 2 cp9) (vZ));have HF:=Hz (F.step (Ag y2 B (vI 13) (vI a) (.string ⟨(Aq v (A4 p st1 [119,105,116,104])).toArray⟩) (vI 0) (vE) (vZ) (.slice (some ⟨g9,0,none⟩) 2 cp9) (vZ)) (fun x hx => .inr (by simp at hx;omega)));have HP:=Hz (h0.frL (Ag y2 B (vI 13) (vI a) (.string ⟨(Aq v (A4 p st1 [119,105,116,104])).toArray⟩) (vI 0) (vE) (vZ) (.slice (some ⟨g9,0,none⟩) 2 cp9) (vZ)) (by simp;omega) (by simp;omega));have HRW0:=Hz (Aj.keep (ok':=fun b=>B≤b) Al rowE (Sh.of_fr (Ag y2 B (vI 13) (vI a) (.string ⟨(Aq v (A4 p st1 [119,105,116,104])).toArray⟩) (vI 0) (vE) (vZ) (.slice (some ⟨g9,0,none⟩) 2 cp9) (vZ)) (fun b hb hlt=>⟨by omega,by simp;omega⟩)));unfold st8 at HG HF HP HRW0;go_wp2_with fail;generalize (((((((y2.setCell ⟨B,0,none⟩ (vI 13)).setCell ⟨B,1,none⟩ (vI a)).setCell ⟨B,2,none⟩ (.string ⟨(Aq v (A4 p st1 [119,105,116,104])).toArray⟩)).setCell ⟨B,3,none⟩ (vI 0)).setCell ⟨B,4,none⟩ (vE)).setCell ⟨B,5,none⟩ (vZ)).setCell ⟨B,6,none⟩ (.slice (some ⟨g9,0,none⟩) 2 cp9)).setCell ⟨B,7,none⟩ (vZ)=Z at HG HF HP HRW0 ⊢;obtain⟨⟨d0,d1,d2,d3,d4,d5,d6,d7⟩,_⟩:=Ac HG.out;have hxx:=Ai.of_rows (w:=Z) (ok:=fun b=>B≤b) (k:=13) (a:=a) (nm:=Aq v (A4 p st1 [119,105,116,104])) (n:=0) (s:=[]) (c5:=fun _=>[]) Aj.nil_ HRW0.out (c7:=fun _=>[]) Aj.nil_;refine bodyPost_ret (v:=.agg #[vI 13,vI a,.string ⟨(Aq v (A4 p st1 [119,105,116,104])).toArray⟩,vI 0,vE,vZ,.slice (some ⟨g9,0,none⟩) 2 cp9,vZ]) ?_ rfl ?_
  ·simp[results,Tryz.f112,go_sem,d0,d1,d2,d3,d4,d5,d6,d7]
  ·exact⟨_,_,_,_,_,_,_,_,_,_,_,_,_,_,_,_,_,_,rfl,hxx.keep (Sh.of_fr (Fr.refl [] Z) (fun b hb hlt=>⟨by omega,fun x=>by cases x⟩)),by unfold body;exact .may_no HT.out HB.out (.els (.ahead (by unfold Fv;rw[← HJ.out];exact HN_.out) (.look HT.out (by rw[if_neg (by rcases HCS.out with h|⟨_,h|⟨_,h⟩⟩<;> rw[h] <;> simp)];exact .callE hr1 (.must_ hp (.name_ hv (.must_ hq (.callE hr2 (.must_ hq2 .retE))))))))),HP.out,HF.out⟩
def LKr(a:Int)(ls:List LB)(args:List Ah):Cmd:=.look fun _ ok=>if ok=true then .callE (.recL a ls args) .retE else Bk [125] (.retE (.mk 12 a [] 0 [] ls args []))
def ENDr(a:Int)(ls:List LB)(args:List Ah):Cmd:=Bk [125] (.retE (.mk 12 a [] 0 [] ls args []))
theorem LKr_no{ts:List Tok}{a:Int}{ls:List LB}{args:List Ah}{st st':St}{r:Rs}{t:Tok}(ht:ts[st.i]?=some t)(hok:st.ok=false)(h:Run ts (ENDr a ls args) st r st'):Run ts (LKr a ls args) st r st' :=
 .look ht (by rw[hok,if_neg (by decide)];exact h)
theorem Jt{ts:List Tok}{a:Int}{ls:List LB}{args:List Ah}{st0 st3:St}{y:Ah}{u u1 v:Tok}(hu:ts[st0.i]?=some u)(hok:st0.ok=true)(hu1:ts[(Cd u st0).i]?=some u1)
  (hs:Run ts (body .seq) (A4 u1 (Cd u st0) [61]) (.e y) st3) (hv:ts[st3.i]?=some v) {b:Bool} (hb:isB v st3.ok [[44]]=b) {z:Ah} {st':St}
  (h:Run ts (if b=true then LKr a (ls++[Aq u st0]) (args++[y])else ENDr a (ls++[Aq u st0]) (args++[y])) (if b=true then ⟨st3.i+1,st3.ok⟩else st3) (.e z) st'):Run ts (LKr a ls args) st0 (.e z) st':=by
 refine .look hu ?_;rw[hok,if_pos rfl];unfold Cd at hu1 hs;refine .callE ?_ .retE;unfold body;refine .name_ hu (.must_ hu1 (.callE hs ?_))
 cases b with
 | true =>
  rw[if_pos rfl,if_pos rfl] at h;refine .may_yes hv hb (.thn ?_)
  cases h with
  | look h1 hk =>
   have e:st3.ok=true:=(Em hb).1;have hk:Run ts (if st3.ok=true then _ else _) _ _ _:=hk;rw[e,if_pos rfl] at hk;rw[e]
   exact hk
 | false =>
  rw[if_neg (by decide),if_neg (by decide)] at h;exact .may_no hv hb (.els h)
theorem Nr(ts:List Tok)(hE:Be ts)(N:Nat)(ih:Dp ts N)(P g c:Nat)(st:St)(a:Int)(w:World)(h:PSt P g c ts st w)(hm:16 *(ts.length-st.i)+14<N+1)(t:Tok)(ht:ts[st.i]?=some t)(hb:isB t st.ok [[125]]=false)(n:Tok)(J:Nat)(hj:J=min (st.i+1) (ts.length-1))(hn:ts[J]?=some n)(hk:(t.k==1)=true)(hk7:(n.k==7)=true)(hx:(n.text==[61])=true):Calls prog 112 #[.pointer (some ⟨P,0,none⟩),.agg #[vI 0,vI a,vE,vI 0,vE,vZ,vZ,vZ]] w (Fl P g c ts st (body (.braces a)) w):=by
 have HB:=Hz hb;clear hb;have HJ:=Hz hj;clear hj;have HN_:=Hz hn;clear hn;have HK:=Hz hk;clear hk;have HK7:=Hz hk7;clear hk7;have HX:=Hz hx;clear hx;have HT:=Hz ht;clear ht;have IH:=Hz ih;clear ih;have H:=Hz h;have hP:=Aa h.blk;have hgl:=h.lt;have hin:=h.inb;have HN:=Hz hm;have HE:=Hz hE;clear h hm hE;go_enter func112,ntmps112;go_wp2_with fail;have f0:Fr [] w ((w.alloc (.cells #[vI 0,vI a,vE,vI 0,vE,vZ,vZ,vZ] 27)).alloc (.cells #[vI 0,vI 0,vE,vI 0,vE,vZ,vZ,vZ] 27)):=((Fr.refl [] w).alloc _).alloc _;have q0:=Ad (Ab w (.cells #[vI 0,vI a,vE,vI 0,vE,vZ,vZ,vZ] 27)) (.cells #[vI 0,vI 0,vE,vI 0,vE,vZ,vZ,vZ] 27);have g0:=Ab (w.alloc (.cells #[vI 0,vI a,vE,vI 0,vE,vZ,vZ,vZ] 27)) (.cells #[vI 0,vI 0,vE,vI 0,vE,vZ,vZ,vZ] 27);have hsz:(w.alloc (.cells #[vI 0,vI a,vE,vI 0,vE,vZ,vZ,vZ] 27)).heap.size=w.heap.size+1:=by simp
 rw[hsz] at g0;clear hsz;have h0:=H.out.fr f0;have F:=f0.mono (L':=[P]) (fun x hx=>by cases hx)
 generalize (w.alloc (.cells #[vI 0,vI a,vE,vI 0,vE,vZ,vZ,vZ] 27)).alloc (.cells #[vI 0,vI 0,vE,vI 0,vE,vZ,vZ,vZ] 27)=w1 at *
 generalize hT:w.heap.size=T at *
 generalize hB:T+1=B at *
 have hPT:P<T:=hP;have hgT:g<T:=hgl;clear f0 hP hgl;refine(may_no [125] P g c ts st t HT.out HB.out w1 h0 HE.out).mono ?_;rintro e x1 ⟨rfl,fm⟩;have g0:=fm.keep g0 nE;have q0:=fm.keep q0 nE;have F:=F.trans0 fm;have h0:=h0.fr fm;clear fm;go_wp2_with fail;obtain⟨p0,p1,p2,_⟩:=C2 h0.blk;have a0:=h0.rt.c0 _ _ HN_.out;have a1:=h0.rt.c1 _ _ HN_.out;have a2:=h0.rt.c2 _ _ HN_.out;have a3:=h0.rt.c3 _ _ HN_.out;have hPx:=Aa h0.blk;have hgx:=h0.lt;have hts:=HE.out.1;have hmin:min ((st.i:Int)+1) ((ts.length-1:Nat):Int)=(J:Int):=by have:=HJ.out;omega
 have hJ1:(0:Int)≤(J:Int):=by omega
 have hJ2:(J:Int)<(ts.length:Int):=by have:=HJ.out;omega
 have w1q:IntKind.i64.wrap ((st.i:Int)+1)=((st.i+1:Nat):Int):=(IntWalk.i64_in _ (by omega)).trans (by omega);have w2q:IntKind.i64.wrap ((ts.length:Int)-1)=((ts.length-1:Nat):Int):=(IntWalk.i64_in _ (by omega)).trans (by omega);refine Fu (fun w'=>w'.cell? ⟨P,0,none⟩=some (.slice (some ⟨g,0,none⟩) ts.length c)∧w'.cell? ⟨P,1,none⟩=some (vI (st.i:Nat))∧w'.cell? ⟨g,J * 4,none⟩=some (vI n.k)∧w'.cell? ⟨g,J * 4+1,none⟩=some (vI n.at')∧w'.cell? ⟨g,J * 4+2,none⟩=some (.string ⟨n.text.toArray⟩)∧w'.cell? ⟨g,J * 4+3,none⟩=some (vI n.n)) (by kernel_rfl) (by kernel_rfl) ?hS1090 (fun K hK hHeld=>?hr1090)
 case hS1090=>go_keep
 refine Ae (i:=0) (v:=?v1091) rfl (by kernel_rfl) (by kernel_rfl) (by kernel_rfl) (fun _ _ _ h=>h) (Or.inl ⟨by rfl,?hy1091⟩) (by assumption) ?hr1091
 case hy1091 =>
  intro w' hSw
  (try dsimp only at hSw)
  go_simp
  (try with_reducible rfl)
 (try simp only[Act.put,sX])
 refine Ae (i:=1) (v:=?v1092) rfl (by kernel_rfl) (by kernel_rfl) (by kernel_rfl) (fun _ _ _ h=>h) (Or.inl ⟨by rfl,?hy1092⟩) (by assumption) ?hr1092
 case hy1092 =>
  intro w' hSw
  (try dsimp only at hSw)
  go_simp
  (try with_reducible rfl)
 (try simp only[Act.put,sX])
 refine Ae (i:=2) (v:=?v1093) rfl (by kernel_rfl) (by kernel_rfl) (by kernel_rfl) (fun _ _ _ h=>h) (Or.inl ⟨by rfl,?hy1093⟩) (by assumption) ?hr1093
 case hy1093 =>
  intro w' hSw
  (try dsimp only at hSw)
  go_simp
  (try with_reducible rfl)
 (try simp only[Act.put,sX])
 refine Ae (i:=3) (v:=?v1094) rfl (by kernel_rfl) (by kernel_rfl) (by kernel_rfl) (fun _ _ _ h=>h) (Or.inl ⟨by rfl,?hy1094⟩) (by assumption) ?hr1094
 case hy1094 =>
  intro w' hSw
  (try dsimp only at hSw)
  go_simp
  (try with_reducible rfl)
 (try simp only[Act.put,sX])
 refine Ae (i:=4) (v:=?v1095) rfl (by kernel_rfl) (by kernel_rfl) (by kernel_rfl) (fun _ _ _ h=>h) (Or.inl ⟨by rfl,?hy1095⟩) (by assumption) ?hr1095
 case hy1095 =>
  intro w' hSw
  (try dsimp only at hSw)
  go_simp
  (try with_reducible rfl)
 (try simp only[Act.put,sX])
 refine Ae (i:=5) (v:=?v1096) rfl (by kernel_rfl) (by kernel_rfl) (by kernel_rfl) (fun _ _ _ h=>h) (Or.inl ⟨by rfl,?hy1096⟩) (by assumption) ?hr1096
 case hy1096 =>
  intro w' hSw
  (try dsimp only at hSw)
  go_simp
  (try with_reducible rfl)
 (try simp only[Act.put,sX])
 refine Ae (i:=6) (v:=?v1097) rfl (by kernel_rfl) (by kernel_rfl) (by kernel_rfl) (fun _ _ _ h=>h) (Or.inl ⟨by rfl,?hy1097⟩) (by assumption) ?hr1097
 case hy1097 =>
  intro w' hSw
  (try dsimp only at hSw)
  go_simp
  (try with_reducible rfl)
 (try simp only[Act.put,sX])
 refine Ae (i:=7) (v:=?v1098) rfl (by kernel_rfl) (by kernel_rfl) (by kernel_rfl) (fun _ _ _ h=>h) (Or.inl ⟨by rfl,?hy1098⟩) (by assumption) ?hr1098
 case hy1098 =>
  intro w' hSw
  (try dsimp only at hSw)
  go_simp
  (try with_reducible rfl)
 (try simp only[Act.put,sX])
 refine Ae (i:=8) (v:=?v1099) rfl (by kernel_rfl) (by kernel_rfl) (by kernel_rfl) (fun _ _ _ h=>h) (Or.inl ⟨by rfl,?hy1099⟩) (by assumption) ?hr1099
 case hy1099 =>
  intro w' hSw
  (try dsimp only at hSw)
  go_simp
  (try with_reducible rfl)
 (try simp only[Act.put,sX])
 refine Ae (i:=9) (v:=?v1100) rfl (by kernel_rfl) (by kernel_rfl) (by kernel_rfl) (fun _ _ _ h=>h) (Or.inl ⟨by rfl,?hy1100⟩) (by assumption) ?hr1100
 case hy1100 =>
  intro w' hSw
  (try dsimp only at hSw)
  go_simp
  (try with_reducible rfl)
 (try simp only[Act.put,sX])
 refine Ae (i:=10) (v:=?v1101) rfl (by kernel_rfl) (by kernel_rfl) (by kernel_rfl) (fun _ _ _ h=>h) (Or.inl ⟨by rfl,?hy1101⟩) (by assumption) ?hr1101
 case hy1101 =>
  intro w' hSw
  (try dsimp only at hSw)
  go_simp
  (try with_reducible rfl)
 (try simp only[Act.put,sX])
 refine Ae (i:=11) (v:=?v1102) rfl (by kernel_rfl) (by kernel_rfl) (by kernel_rfl) (fun _ _ _ h=>h) (Or.inl ⟨by rfl,?hy1102⟩) (by assumption) ?hr1102
 case hy1102 =>
  intro w' hSw
  (try dsimp only at hSw)
  go_simp
  (try with_reducible rfl)
 (try simp only[Act.put,sX])
 refine Ae (i:=12) (v:=?v1103) rfl (by kernel_rfl) (by kernel_rfl) (by kernel_rfl) (fun _ _ _ h=>h) (Or.inl ⟨by rfl,?hy1103⟩) (by assumption) ?hr1103
 case hy1103 =>
  intro w' hSw
  (try dsimp only at hSw)
  go_simp
  (try with_reducible rfl)
 (try simp only[Act.put,sX])
 refine Ae (i:=13) (v:=?v1104) rfl (by kernel_rfl) (by kernel_rfl) (by kernel_rfl) (fun _ _ _ h=>h) (Or.inl ⟨by rfl,?hy1104⟩) (by assumption) ?hr1104
 case hy1104 =>
  intro w' hSw
  (try dsimp only at hSw)
  go_simp
  (try with_reducible rfl)
 (try simp only[Act.put,sX])
 refine Ae (i:=14) (v:=?v1105) rfl (by kernel_rfl) (by kernel_rfl) (by kernel_rfl) (fun _ _ _ h=>h) (Or.inl ⟨by rfl,?hy1105⟩) (by assumption) ?hr1105
 case hy1105 =>
  intro w' hSw
  (try dsimp only at hSw)
  go_simp
  (try with_reducible rfl)
 (try simp only[Act.put,sX])
 refine Ae (i:=15) (v:=?v1106) rfl (by kernel_rfl) (by kernel_rfl) (by kernel_rfl) (fun _ _ _ h=>h) (Or.inl ⟨by rfl,?hy1106⟩) (by assumption) ?hr1106
 case hy1106 =>
  intro w' hSw
  (try dsimp only at hSw)
  go_simp
  (try with_reducible rfl)
 (try simp only[Act.put,sX])
 refine Ae (i:=16) (v:=?v1107) rfl (by kernel_rfl) (by kernel_rfl) (by kernel_rfl) (fun _ _ _ h=>h) (Or.inl ⟨by rfl,?hy1107⟩) (by assumption) ?hr1107
 case hy1107 =>
  intro w' hSw
  (try dsimp only at hSw)
  go_simp
  (try with_reducible rfl)
 (try simp only[Act.put,sX])
 refine Ae (i:=17) (v:=?v1108) rfl (by kernel_rfl) (by kernel_rfl) (by kernel_rfl) (fun _ _ _ h=>h) (Or.inl ⟨by rfl,?hy1108⟩) (by assumption) ?hr1108
 case hy1108 =>
  intro w' hSw
  (try dsimp only at hSw)
  go_simp
  (try with_reducible rfl)
 (try simp only[Act.put,sX])
 refine Ak (i:=18) rfl (by kernel_rfl) (fun K18 hK18=>?hr1109);go_simp;refine hK18.out _ _ ?hS1109 (fun hHeld=>?hq1109)
 case hS1109=>go_keep
 clear hK18 K18
 (try simp only[Act.put,sX])
 refine wpAnyH_done (by kernel_rfl) ?hr1110 _;refine As rfl ?hq1110;go_simp;refine hK.out _ _ ?hs1110;clear hK K;clear p0 p1 p2 a0 a1 a2 a3 hHeld hmin hJ1 hJ2 w1q w2q;have fd:Fr [] x1 ((x1.alloc (.cells #[vI n.k,vI n.at',.string ⟨n.text.toArray⟩,vI n.n] 46)).drew):=((Fr.refl [] x1).alloc _).drew;have q5:((x1.alloc (.cells #[vI n.k,vI n.at',.string ⟨n.text.toArray⟩,vI n.n] 46)).drew).heap[x1.heap.size]?=some (.cells #[vI n.k,vI n.at',.string ⟨n.text.toArray⟩,vI n.n] 46 (0,0)):=Ab x1 (.cells #[vI n.k,vI n.at',.string ⟨n.text.toArray⟩,vI n.n] 46);have hBx1:=Aa g0;have hTx1:=Aa q0;have g0:=fd.keep g0 nE;have q0:=fd.keep q0 nE;have h0:=h0.fr fd;have F:=F.trans0 fd
 generalize (x1.alloc (.cells #[vI n.k,vI n.at',.string ⟨n.text.toArray⟩,vI n.n] 46)).drew=x2 at *
 generalize x1.heap.size=TN at *
 clear fd;go_wp2_with fail;refine(Bd P g c ts st t HT.out x2 h0 HE.out).mono ?_;rintro e x3 ⟨rfl,f3⟩;have g0:=f3.keep g0 nE;have q0:=f3.keep q0 nE;have q5:=f3.keep q5 nE;have h0:=h0.fr f3;have F:=F.trans0 f3;have r0:=Hl;have hTN:=Aa q5;obtain⟨y0,y1,y2,y3,_⟩:=Am q5;clear f3;have hk:=HK.out;have hk7:=HK7.out;have hx:=HX.out;obtain⟨⟨m0,m1,m2,m3,m4,m5,m6,m7⟩,j0,j1,j2,j3,j4,j5,j6,j7⟩:=Ac q0;have hTx:=Aa q0;have q1:(x3.setCell ⟨T,0,none⟩ (vI 12)).heap[T]?=some (.cells #[vI 12,vI a,vE,vI 0,vE,vZ,vZ,vZ] 27 (0,0)):=Bi q0 0 _;have fs:=(Fr.refl [T] x3).setCell (p:=⟨T,0,none⟩) (.inl (by simp)) (vI 12);have g0:=fs.keep g0 (by simp;omega);have h0:=h0.frL fs (by simp;omega) (by simp;omega);have F:=F.step fs (fun x hx => .inr (by simp at hx;omega));have HQ:=Hz q1;clear q0 q1 fs;go_wp2_with fail;clear m0 m1 m2 m3 m4 m5 m6 m7 j0 j1 j2 j3 j4 j5 j6 j7;have q0:=HQ.out;clear HQ
 generalize x3.setCell ⟨T,0,none⟩ (vI 12)=x3n at *
 clear y0 y1 y2 y3 q5 r0 hk hk7 hx;obtain⟨i0s,his,hz0s,hz1s,hz2s⟩:=info_parts O0;have HIs:=Hz his;have HZ0s:=Hz hz0s;have HZ1s:=Hz hz1s;have HZ2s:=Hz hz2s;clear his hz0s hz1s hz2s;obtain⟨i0e,hie,hz0e,hz1e,hz2e⟩:=info_parts Ef;have HIe:=Hz hie;have HZ0e:=Hz hz0e;have HZ1e:=Hz hz1e;have HZ2e:=Hz hz2e;clear hie hz0e hz1e hz2e
 have HR0:Hid (∀ x' st',Run ts (if true=true then LKr a [] [] else ENDr a [] []) st (.e x') st'→Run ts (body (.braces a)) st (.e x') st'):=Hz (fun x' st' h=>by
  (first|rw[if_pos rfl] at h|rw[if_pos trivial] at h)
  unfold body
  refine .may_no HT.out HB.out (.els (.ahead (by unfold Fv;rw[← HJ.out];exact HN_.out) (.look HT.out ?_)))
  rw[HK.out,HK7.out,HX.out,if_pos (by rfl)]
  cases h with
  | look h1 hk=>exact hk)
 go_loopw [6] (fun mv wr=>∃ (b:Bool) (ls:List LB) (args:List Ah) (v5 v6:Value) (c5 c6:Nat→List Value) (st0:St),mv = .bool b∧Fr [P] w wr∧wr.heap[B]?=some (.cells #[vI 0,vI 0,vE,vI 0,vE,vZ,vZ,vZ] 27 (0,0))∧wr.heap[T]?=some (.cells #[vI 12,vI a,vE,vI 0,vE,v5,v6,vZ] 27 (0,0))∧RowS wr (fun b=>(B<b∧¬ b=T∧¬ b=P)∧(v6).ownBlock≠some b) v5 ls c5∧Lu wr (fun b=>(B<b∧¬ b=T∧¬ b=P)∧(v5).ownBlock≠some b) v6 args c6∧PSt P g c ts st0 wr∧st.i≤st0.i∧ls.length≤st0.i+(if b=true then 0 else 1)∧args.length=ls.length∧Hid (∀ x' st',Run ts (if b=true then LKr a ls args else ENDr a ls args) st0 (.e x') st'→Run ts (body (.braces a)) st (.e x') st')) (fun mv wr=>2 *(ts.length-plI wr P)+(match mv with | .bool true=>1|_=>0))
 case atStart=>exact⟨true,[],[],vZ,vZ,fun _=>[],fun _=>[],_,rfl,F,g0,q0,Aj.nil_,Aj.nil_,h0,by omega,by simp,rfl,HR0⟩
 case round =>
  obtain⟨b,ls,args,v5,v6,c5,c6,st0,rfl,F,g0,q0,rowS,rowE,h0,hle0,hacc,hal,HR⟩:=hrel;clear HR0
  cases b with
  | false =>
   go_wp2_with fail
   have hform5:∃ A n0 cc,v5 = .slice A n0 cc:=by
    rcases rowS.own.2 with⟨hv,_⟩| ⟨g',cap,cur,hv,_⟩
    ·exact⟨_,_,_,hv⟩
    ·exact⟨_,_,_,hv⟩
   obtain⟨A5,n5,cc5,rfl⟩:=hform5
   have hform6:∃ A n0 cc,v6 = .slice A n0 cc:=by
    rcases rowE.own.2 with⟨hv,_⟩| ⟨g',cap,cur,hv,_⟩
    ·exact⟨_,_,_,hv⟩
    ·exact⟨_,_,_,hv⟩
   obtain⟨A6,n6,cc6,rfl⟩:=hform6;obtain⟨u,hu⟩:=At h0.inb;refine(Bc [125] P g c ts st0 u hu wr h0 HE.out).mono ?_;rintro e y1 ⟨rfl,h0,fm⟩;have g0:=fm.keep g0 (by simp;omega);have q0:=fm.keep q0 (by simp;omega);have F:=F.trans fm;have rowE:=Aj.keep (ok':=fun b=>B<b) Al rowE (Sh.of_fr fm (fun b hb hlt=>⟨hb.1.1,by simp;exact hb.1.2.2⟩));have rowS:=Aj.keep (ok':=fun b=>B<b) Cr rowS (Sh.of_fr fm (fun b hb hlt=>⟨hb.1.1,by simp;exact hb.1.2.2⟩));have hBlt:=Aa g0;have hTlt:=Aa q0;obtain⟨⟨l0,l1,l2,l3,l4,l5,l6,l7⟩,_⟩:=Ac q0;obtain⟨⟨u0_,u1,u2,u3,u4,u5,u6,u7⟩,z0,z1,z2,z3,z4,z5,z6,z7⟩:=Ac g0;clear fm;have HG:=Hz (An g0 (vI 12) (vI a) (vE) (vI 0) (vE) (.slice A5 n5 cc5) (.slice A6 n6 cc6) (vZ));have HF:=Hz (F.step (Ag y1 B (vI 12) (vI a) (vE) (vI 0) (vE) (.slice A5 n5 cc5) (.slice A6 n6 cc6) (vZ)) (fun x hx => .inr (by simp at hx;omega)));have HP:=Hz (h0.frL (Ag y1 B (vI 12) (vI a) (vE) (vI 0) (vE) (.slice A5 n5 cc5) (.slice A6 n6 cc6) (vZ)) (by simp;omega) (by simp;omega));have HRW0:=Hz (Aj.keep (ok':=fun b=>B≤b) Al rowE (Sh.of_fr (Ag y1 B (vI 12) (vI a) (vE) (vI 0) (vE) (.slice A5 n5 cc5) (.slice A6 n6 cc6) (vZ)) (fun b hb hlt=>⟨by omega,by simp;omega⟩)));have HRW1:=Hz (Aj.keep (ok':=fun b=>B≤b) Cr rowS (Sh.of_fr (Ag y1 B (vI 12) (vI a) (vE) (vI 0) (vE) (.slice A5 n5 cc5) (.slice A6 n6 cc6) (vZ)) (fun b hb hlt=>⟨by omega,by simp;omega⟩)));unfold st8 at HG HF HP HRW0 HRW1;go_wp2_with fail;generalize (((((((y1.setCell ⟨B,0,none⟩ (vI 12)).setCell ⟨B,1,none⟩ (vI a)).setCell ⟨B,2,none⟩ (vE)).setCell ⟨B,3,none⟩ (vI 0)).setCell ⟨B,4,none⟩ (vE)).setCell ⟨B,5,none⟩ (.slice A5 n5 cc5)).setCell ⟨B,6,none⟩ (.slice A6 n6 cc6)).setCell ⟨B,7,none⟩ (vZ)=Z at HG HF HP HRW0 HRW1 ⊢;obtain⟨⟨d0,d1,d2,d3,d4,d5,d6,d7⟩,_⟩:=Ac HG.out;have hxx:=Ai.of_rows (w:=Z) (ok:=fun b=>B≤b) (k:=12) (a:=a) (nm:=[]) (n:=0) (s:=[]) HRW1.out HRW0.out (c7:=fun _=>[]) Aj.nil_;refine bodyPost_ret (v:=.agg #[vI 12,vI a,vE,vI 0,vE,.slice A5 n5 cc5,.slice A6 n6 cc6,vZ]) ?_ rfl ?_
   ·simp[results,Tryz.f112,go_sem,d0,d1,d2,d3,d4,d5,d6,d7]
   ·exact⟨_,_,_,_,_,_,_,_,_,_,_,_,_,_,_,_,_,_,rfl,hxx.keep (Sh.of_fr (Fr.refl [] Z) (fun b hb hlt=>⟨by omega,fun x=>by cases x⟩)),HR.out _ _ (by(first|rw[if_neg (by decide)] | rw[if_neg id]);exact .must_ hu .retE),HP.out,HF.out⟩
  | true =>
   obtain⟨p0,p1,p2,_⟩:=C2 h0.blk;have hPw:=Aa h0.blk
   cases hok:st0.ok with
   | false =>
    rw[hok] at p2;have HOK:=Hz hok;clear hok;go_wp2_with fail;clear p0 p1 p2
    have hform5:∃ A n0 cc,v5 = .slice A n0 cc:=by
     rcases rowS.own.2 with⟨hv,_⟩| ⟨g',cap,cur,hv,_⟩
     ·exact⟨_,_,_,hv⟩
     ·exact⟨_,_,_,hv⟩
    obtain⟨A5,n5,cc5,rfl⟩:=hform5
    have hform6:∃ A n0 cc,v6 = .slice A n0 cc:=by
     rcases rowE.own.2 with⟨hv,_⟩| ⟨g',cap,cur,hv,_⟩
     ·exact⟨_,_,_,hv⟩
     ·exact⟨_,_,_,hv⟩
    obtain⟨A6,n6,cc6,rfl⟩:=hform6;obtain⟨u,hu⟩:=At h0.inb;refine(Bc [125] P g c ts st0 u hu wr h0 HE.out).mono ?_;rintro e y1 ⟨rfl,h0,fm⟩;have g0:=fm.keep g0 (by simp;omega);have q0:=fm.keep q0 (by simp;omega);have F:=F.trans fm;have rowE:=Aj.keep (ok':=fun b=>B<b) Al rowE (Sh.of_fr fm (fun b hb hlt=>⟨hb.1.1,by simp;exact hb.1.2.2⟩));have rowS:=Aj.keep (ok':=fun b=>B<b) Cr rowS (Sh.of_fr fm (fun b hb hlt=>⟨hb.1.1,by simp;exact hb.1.2.2⟩));have hBlt:=Aa g0;have hTlt:=Aa q0;obtain⟨⟨l0,l1,l2,l3,l4,l5,l6,l7⟩,_⟩:=Ac q0;obtain⟨⟨u0_,u1,u2,u3,u4,u5,u6,u7⟩,z0,z1,z2,z3,z4,z5,z6,z7⟩:=Ac g0;clear fm;have HG:=Hz (An g0 (vI 12) (vI a) (vE) (vI 0) (vE) (.slice A5 n5 cc5) (.slice A6 n6 cc6) (vZ));have HF:=Hz (F.step (Ag y1 B (vI 12) (vI a) (vE) (vI 0) (vE) (.slice A5 n5 cc5) (.slice A6 n6 cc6) (vZ)) (fun x hx => .inr (by simp at hx;omega)));have HP:=Hz (h0.frL (Ag y1 B (vI 12) (vI a) (vE) (vI 0) (vE) (.slice A5 n5 cc5) (.slice A6 n6 cc6) (vZ)) (by simp;omega) (by simp;omega));have HRW0:=Hz (Aj.keep (ok':=fun b=>B≤b) Al rowE (Sh.of_fr (Ag y1 B (vI 12) (vI a) (vE) (vI 0) (vE) (.slice A5 n5 cc5) (.slice A6 n6 cc6) (vZ)) (fun b hb hlt=>⟨by omega,by simp;omega⟩)));have HRW1:=Hz (Aj.keep (ok':=fun b=>B≤b) Cr rowS (Sh.of_fr (Ag y1 B (vI 12) (vI a) (vE) (vI 0) (vE) (.slice A5 n5 cc5) (.slice A6 n6 cc6) (vZ)) (fun b hb hlt=>⟨by omega,by simp;omega⟩)));unfold st8 at HG HF HP HRW0 HRW1;go_wp2_with fail;generalize (((((((y1.setCell ⟨B,0,none⟩ (vI 12)).setCell ⟨B,1,none⟩ (vI a)).setCell ⟨B,2,none⟩ (vE)).setCell ⟨B,3,none⟩ (vI 0)).setCell ⟨B,4,none⟩ (vE)).setCell ⟨B,5,none⟩ (.slice A5 n5 cc5)).setCell ⟨B,6,none⟩ (.slice A6 n6 cc6)).setCell ⟨B,7,none⟩ (vZ)=Z at HG HF HP HRW0 HRW1 ⊢;obtain⟨⟨d0,d1,d2,d3,d4,d5,d6,d7⟩,_⟩:=Ac HG.out;have hxx:=Ai.of_rows (w:=Z) (ok:=fun b=>B≤b) (k:=12) (a:=a) (nm:=[]) (n:=0) (s:=[]) HRW1.out HRW0.out (c7:=fun _=>[]) Aj.nil_;refine bodyPost_ret (v:=.agg #[vI 12,vI a,vE,vI 0,vE,.slice A5 n5 cc5,.slice A6 n6 cc6,vZ]) ?_ rfl ?_
    ·simp[results,Tryz.f112,go_sem,d0,d1,d2,d3,d4,d5,d6,d7]
    ·exact⟨_,_,_,_,_,_,_,_,_,_,_,_,_,_,_,_,_,_,rfl,hxx.keep (Sh.of_fr (Fr.refl [] Z) (fun b hb hlt=>⟨by omega,fun x=>by cases x⟩)),HR.out _ _ (by(first|rw[if_pos rfl] | rw[if_pos trivial]);exact LKr_no hu HOK.out (.must_ hu .retE)),HP.out,HF.out⟩
   | true =>
    rw[hok] at p2;have HOK:=Hz hok;clear hok;have HR1:=HR;clear HR;obtain⟨u,hu⟩:=At h0.inb;have HPL:=Hz h0.pl;have HLE0:=Hz hle0;have HAL:=Hz hal;have HACC:=Hz hacc;have HLEN:Hid (ls.length≤4097):=Hz (by have h1:=hacc;simp at h1;have h2:=HE.out.1;have h3:=h0.inb;omega);clear hacc hle0 hal;have X6:∀ gg,v6.ownBlock=some gg→gg<wr.heap.size:=fun gg hg=>rowE.own_lt gg hg
    clear p0 p1;obtain⟨⟨l0,l1,l2,l3,l4,l5,l6,l7⟩,_⟩:=Ac q0;have hTwr:=Aa q0;have ROWH:=Hz rowS;clear rowS;go_wp2_with fail;clear p2;refine Au (fun w'=>w'.cell? ⟨T,5,none⟩=some (v5)) (by kernel_rfl) (by kernel_rfl) ?hS1111 (fun K hK hHeld=>?hr1111)
    case hS1111=>go_keep
    refine Ae (i:=0) (v:=?v1112) rfl (by kernel_rfl) (by kernel_rfl) (by kernel_rfl) (fun _ _ _ h=>h) (Or.inl ⟨by rfl,?hy1112⟩) (by assumption) ?hr1112
    case hy1112 =>
     intro w' hSw
     (try dsimp only at hSw)
     go_simp
     (try with_reducible rfl)
    (try simp only[Act.put,sX])
    refine Ae (i:=1) (v:=?v1113) rfl (by kernel_rfl) (by kernel_rfl) (by kernel_rfl) (fun _ _ _ h=>h) (Or.inl ⟨by rfl,?hy1113⟩) (by assumption) ?hr1113
    case hy1113 =>
     intro w' hSw
     (try dsimp only at hSw)
     go_simp
     (try with_reducible rfl)
    (try simp only[Act.put,sX])
    refine Ae (i:=2) (v:=?v1114) rfl (by kernel_rfl) (by kernel_rfl) (by kernel_rfl) (fun _ _ _ h=>h) (Or.inl ⟨by rfl,?hy1114⟩) (by assumption) ?hr1114
    case hy1114 =>
     intro w' hSw
     (try dsimp only at hSw)
     go_simp
     (try with_reducible rfl)
    (try simp only[Act.put,sX])
    refine Ak (i:=3) rfl (by kernel_rfl) (fun K3 hK3=>?hr1115);go_simp;refine(Fb P g c ts st0 u hu _ (h0.fr (Fr.refl [] wr).drew) HE.out).mono ?_;rintro e x8 ⟨rfl,hst,f8⟩;have hxn:StrE x8 (fun b=>wr.heap.size≤b) (Aq u st0) [.string ⟨(Aq u st0).toArray⟩]:=rfl;have Q8:=f8.keep (w:=wr.drew) q0 (by simp;omega);have hT8:=Aa Q8;have ROW9:=Aj.keep (w':=x8.alloc (.cells #[.string ⟨(Aq u st0).toArray⟩] 9)) (ok':=fun b=>(B<b∧¬ b=T∧¬ b=P)∧(v6).ownBlock≠some b) Cr ROWH.out (Sh.of_fr (((Fr.refl [P] wr).drew.trans f8).alloc _) (fun b hb hlt=>⟨hb,by simp;exact hb.1.2.2⟩));go_simp;refine hK3.out _ _ ?hS1115 (fun hHeld=>?hq1115)
    case hS1115=>exact(Ac Q8).1.2.2.2.2.2.1
    clear hK3 K3
    (try simp only[Act.put,sX])
    refine Ak (i:=4) rfl (by kernel_rfl) (fun K4 hK4=>?hr1116);go_simp;refine hK4.out _ _ ?hS1116 (fun hHeld=>?hq1116)
    case hS1116=>exact Af (Ad Q8 _) 5
    clear hK4 K4
    (try simp only[Act.put,sX])
    refine Ak (i:=5) rfl (by kernel_rfl) (fun K5 hK5=>?hr1117);refine Az (by rfl) _ _ 23 (by rfl) 9 i0s _ 1 16 underlying23 HIs.out HZ0s.out HZ1s.out HZ2s.out rfl (by decide) (v5) (ls.length) (Cc c5 (ls.length)) (by rfl) ROW9.own ⟨x8.heap.size,0,none⟩ 1 1 [.string ⟨(Aq u st0).toArray⟩] (by rfl) rfl (World.news_of_block (Ab x8 _)) (by simp[Value.oneCell']) (by simp only[maxLen];have:=HLEN.out;have:=HAL.out;omega) (by have:=HLEN.out;have:=HAL.out;omega) ?_;intro v9 w9 hown9 hgrow9 hfp9;obtain⟨g9,cp9,hv9⟩:∃ g cap,v9 = .slice (some ⟨g,0,none⟩) (ls.length+1) cap:=B9 hown9
    subst hv9;have Q9:=(hgrow9.block T (Aa (Ad Q8 (.cells #[.string ⟨(Aq u st0).toArray⟩] 9))) (fun e=>(ROWH.out.blk T e.symm).1.2.1 rfl)).trans (Ad Q8 (.cells #[.string ⟨(Aq u st0).toArray⟩] 9));have hT9:=Aa Q9;obtain⟨⟨u0,u1,u2,u3,u4,u5,u6,u7⟩,z0,z1,z2,z3,z4,z5,z6,z7⟩:=Ac Q9;refine hK5.out _ _ ?hS1117 (fun hHeld=>?hq1117)
    case hS1117=>exact u5
    clear hK5 K5
    (try simp only[Act.put,sX])
    refine Ae (i:=6) (v:=?v1118) rfl (by kernel_rfl) (by kernel_rfl) (by kernel_rfl) (fun _ _ _ h=>h) (Or.inl ⟨by rfl,?hy1118⟩) (by assumption) ?hr1118
    case hy1118 =>
     intro w' hSw
     (try dsimp only at hSw)
     go_simp
     (try with_reducible rfl)
    (try simp only[Act.put,sX])
    refine wpAnyH_done (by kernel_rfl) ?hr1119 _;refine As rfl ?hq1119;go_simp;refine hK.out _ _ ?hs1119;clear hK K;clear l0 l1 l2 l3 l4 l5 l6 l7 u0 u1 u2 u3 u4 u5 u6 u7 z0 z1 z2 z3 z4 z5 z6 z7;have f8:Fr [P] wr x8:=((Fr.refl [P] wr).drew).trans f8;have rowS:=ROWH.out;obtain⟨F,g0,q0,h0,rowS,hsh,hnew,hsz⟩:=Ec (fld:=5) (size:=1) Cr f8 hxn rfl hst g0 q0 rowS (fun b hb=>⟨hb.1.2.1,hb.1.2.2,by have:=hb.1.1;omega,by have:=hb.1.1;omega⟩) (fun b hb=>⟨⟨by have:=Aa g0;omega,by have:=Aa q0;omega,by have:=Aa g0;omega⟩,fun e=>by have:=X6 b e;omega⟩) (fun b hb=>by have:=hb.1.1;omega) F (by omega) (by omega) (by omega) (by omega) (by omega) (by omega) (by omega) hown9 hgrow9 hfp9 (VV':=#[vI 12,vI a,vE,vI 0,vE,.slice (some ⟨g9,0,none⟩) (ls.length+1) cp9,v6,vZ]) rfl;have rowE:=Aj.keep (ok':=fun b=>(B<b∧¬ b=T∧¬ b=P)∧(Value.slice (some ⟨g9,0,none⟩) (ls.length+1) cp9).ownBlock≠some b) Al rowE (fun b hb hlt=>⟨⟨hb.1,fun e=>(hnew b e).elim hb.2 (fun h=>by omega)⟩,hsh b hlt hb.1.2.1 hb.1.2.2 hb.2⟩);clear hsh hnew;clear ROWH ROW9 Q8 Q9 hown9 hgrow9 hfp9 f8 hst hT8 hT9 hTwr
    generalize w9.setCell ⟨T,5,none⟩ (.slice (some ⟨g9,0,none⟩) (ls.length+1) cp9)=w1_ at *
    clear X6 hsz;go_wp2_with fail;obtain⟨u1,hu1⟩:=At h0.inb;refine(Bc [61] P g c ts (Cd u st0) u1 hu1 w1_ h0 HE.out).mono ?_;rintro e w2_ ⟨rfl,h0,fm⟩;have g0:=fm.keep g0 (by simp;omega);have q0:=fm.keep q0 (by simp;omega);have F:=F.trans fm;have rowE:=Aj.keep (ok':=fun b=>(B<b∧¬ b=T∧¬ b=P)∧(Value.slice (some ⟨g9,0,none⟩) (ls.length+1) cp9).ownBlock≠some b) Al rowE (Sh.of_fr fm (fun b hb hlt=>⟨hb,by simp;exact hb.1.2.2⟩));have rowS:=Aj.keep (ok':=fun b=>(B<b∧¬ b=T∧¬ b=P)∧(v6).ownBlock≠some b) Cr rowS (Sh.of_fr fm (fun b hb hlt=>⟨hb,by simp;exact hb.1.2.2⟩));clear fm;have hle3:=E0 u st0;have hle4:=B3 u1 (Cd u st0) [61];have cS:=fun W hW=>Hz (IH.out.seq P g c (A4 u1 (Cd u st0) [61]) W hW (by have:=HN.out;have:=h0.inb;have:=HLE0.out;omega))
    have X5:∀ gg,(Value.slice (some ⟨g9,0,none⟩) (ls.length+1) cp9).ownBlock=some gg→gg<w2_.heap.size:=fun gg hg=>rowS.own_lt gg hg
    obtain⟨⟨l0,l1,l2,l3,l4,l5,l6,l7⟩,_⟩:=Ac q0;have hTwr:=Aa q0;have ROWH:=Hz rowE;clear rowE;go_wp2_with fail;refine Au (fun w'=>w'.cell? ⟨T,6,none⟩=some (v6)) (by kernel_rfl) (by kernel_rfl) ?hS1120 (fun K hK hHeld=>?hr1120)
    case hS1120=>go_keep
    refine Ae (i:=0) (v:=?v1121) rfl (by kernel_rfl) (by kernel_rfl) (by kernel_rfl) (fun _ _ _ h=>h) (Or.inl ⟨by rfl,?hy1121⟩) (by assumption) ?hr1121
    case hy1121 =>
     intro w' hSw
     (try dsimp only at hSw)
     go_simp
     (try with_reducible rfl)
    (try simp only[Act.put,sX])
    refine Ae (i:=1) (v:=?v1122) rfl (by kernel_rfl) (by kernel_rfl) (by kernel_rfl) (fun _ _ _ h=>h) (Or.inl ⟨by rfl,?hy1122⟩) (by assumption) ?hr1122
    case hy1122 =>
     intro w' hSw
     (try dsimp only at hSw)
     go_simp
     (try with_reducible rfl)
    (try simp only[Act.put,sX])
    refine Ae (i:=2) (v:=?v1123) rfl (by kernel_rfl) (by kernel_rfl) (by kernel_rfl) (fun _ _ _ h=>h) (Or.inl ⟨by rfl,?hy1123⟩) (by assumption) ?hr1123
    case hy1123 =>
     intro w' hSw
     (try dsimp only at hSw)
     go_simp
     (try with_reducible rfl)
    (try simp only[Act.put,sX])
    refine Ak (i:=3) rfl (by kernel_rfl) (fun K3 hK3=>?hr1124);go_simp;refine(cS _ (h0.fr (Fr.refl [] w2_).drew)).out.mono ?_;rintro e x8 ⟨k3,a3,nm3,n3,s3,ls3,args3,arms3,A53,n53,c53,A63,n63,c63,A73,n73,c73,st4,rfl,hx3,hr3,hst4,f8⟩;have hst:=hst4;have Q8:=f8.keep (w:=w2_.drew) q0 (by simp;omega);have hT8:=Aa Q8;have ROW9:=Aj.keep (w':=x8.alloc (.cells #[vI k3,vI a3,vS nm3,vI n3,vS s3,.slice A53 n53 c53,.slice A63 n63 c63,.slice A73 n73 c73] 27)) (ok':=fun b=>(B<b∧¬ b=T∧¬ b=P)∧(Value.slice (some ⟨g9,0,none⟩) (ls.length+1) cp9).ownBlock≠some b) Al ROWH.out (Sh.of_fr (((Fr.refl [P] w2_).drew.trans f8).alloc _) (fun b hb hlt=>⟨hb,by simp;exact hb.1.2.2⟩));go_simp;refine hK3.out _ _ ?hS1124 (fun hHeld=>?hq1124)
    case hS1124=>exact(Ac Q8).1.2.2.2.2.2.2.1
    clear hK3 K3
    (try simp only[Act.put,sX])
    refine Ak (i:=4) rfl (by kernel_rfl) (fun K4 hK4=>?hr1125);go_simp;refine hK4.out _ _ ?hS1125 (fun hHeld=>?hq1125)
    case hS1125=>exact Af (Ad Q8 _) 6
    clear hK4 K4
    (try simp only[Act.put,sX])
    refine Ak (i:=5) rfl (by kernel_rfl) (fun K5 hK5=>?hr1126);refine Az (by rfl) _ _ 24 (by rfl) 27 i0e _ 8 128 underlying24 HIe.out HZ0e.out HZ1e.out HZ2e.out rfl (by decide) (v6) (args.length) (Cc c6 (args.length)) (by rfl) ROW9.own ⟨x8.heap.size,0,none⟩ 1 1 [vI k3,vI a3,vS nm3,vI n3,vS s3,.slice A53 n53 c53,.slice A63 n63 c63,.slice A73 n73 c73] (by rfl) rfl (World.news_of_block (Ab x8 _)) (by simp[Value.oneCell']) (by simp only[maxLen];have:=HLEN.out;have:=HAL.out;omega) (by have:=HLEN.out;have:=HAL.out;omega) ?_;intro v9 w9 hown9 hgrow9 hfp9;obtain⟨g8,cp8,hv9⟩:∃ g cap,v9 = .slice (some ⟨g,0,none⟩) (args.length+1) cap:=B9 hown9
    subst hv9;have Q9:=(hgrow9.block T (Aa (Ad Q8 (.cells #[vI k3,vI a3,vS nm3,vI n3,vS s3,.slice A53 n53 c53,.slice A63 n63 c63,.slice A73 n73 c73] 27))) (fun e=>(ROWH.out.blk T e.symm).1.2.1 rfl)).trans (Ad Q8 (.cells #[vI k3,vI a3,vS nm3,vI n3,vS s3,.slice A53 n53 c53,.slice A63 n63 c63,.slice A73 n73 c73] 27));have hT9:=Aa Q9;obtain⟨⟨u0,u1,u2,u3,u4,u5,u6,u7⟩,z0,z1,z2,z3,z4,z5,z6,z7⟩:=Ac Q9;refine hK5.out _ _ ?hS1126 (fun hHeld=>?hq1126)
    case hS1126=>exact u6
    clear hK5 K5
    (try simp only[Act.put,sX])
    refine Ae (i:=6) (v:=?v1127) rfl (by kernel_rfl) (by kernel_rfl) (by kernel_rfl) (fun _ _ _ h=>h) (Or.inl ⟨by rfl,?hy1127⟩) (by assumption) ?hr1127
    case hy1127 =>
     intro w' hSw
     (try dsimp only at hSw)
     go_simp
     (try with_reducible rfl)
    (try simp only[Act.put,sX])
    refine wpAnyH_done (by kernel_rfl) ?hr1128 _;refine As rfl ?hq1128;go_simp;refine hK.out _ _ ?hs1128;clear hK K;clear l0 l1 l2 l3 l4 l5 l6 l7 u0 u1 u2 u3 u4 u5 u6 u7 z0 z1 z2 z3 z4 z5 z6 z7;have f8:Fr [P] w2_ x8:=((Fr.refl [P] w2_).drew).trans f8;have rowE:=ROWH.out;obtain⟨F,g0,q0,h0,rowE,hsh,hnew,hsz⟩:=Ec (fld:=6) (size:=8) Al f8 hx3 rfl hst g0 q0 rowE (fun b hb=>⟨hb.1.2.1,hb.1.2.2,by have:=hb.1.1;omega,by have:=hb.1.1;omega⟩) (fun b hb=>⟨⟨by have:=Aa g0;omega,by have:=Aa q0;omega,by have:=Aa g0;omega⟩,fun e=>by have:=X5 b e;omega⟩) (fun b hb=>by have:=hb.1.1;omega) F (by omega) (by omega) (by omega) (by omega) (by omega) (by omega) (by omega) hown9 hgrow9 hfp9 (VV':=#[vI 12,vI a,vE,vI 0,vE,.slice (some ⟨g9,0,none⟩) (ls.length+1) cp9,.slice (some ⟨g8,0,none⟩) (args.length+1) cp8,vZ]) rfl;have rowS:=Aj.keep (ok':=fun b=>(B<b∧¬ b=T∧¬ b=P)∧(Value.slice (some ⟨g8,0,none⟩) (args.length+1) cp8).ownBlock≠some b) Cr rowS (fun b hb hlt=>⟨⟨hb.1,fun e=>(hnew b e).elim hb.2 (fun h=>by omega)⟩,hsh b hlt hb.1.2.1 hb.1.2.2 hb.2⟩);clear hsh hnew;clear ROWH ROW9 Q8 Q9 hown9 hgrow9 hfp9 f8 hst hT8 hT9 hTwr
    generalize w9.setCell ⟨T,6,none⟩ (.slice (some ⟨g8,0,none⟩) (args.length+1) cp8)=w3_ at *
    clear X5 hsz cS;go_wp2_with fail;obtain⟨v,hv⟩:=At h0.inb;have hle5:=hr3.le;have hpl0:=HPL.out
    cases hb:isB v st4.ok [[44]] with
    | true =>
     refine(may_yes [44] P g c ts st4 v hv hb w3_ h0 HE.out).mono ?_;rintro e y10 ⟨rfl,h0,fm⟩;have g0:=fm.keep g0 (by simp;omega);have q0:=fm.keep q0 (by simp;omega);have F:=F.trans fm;have rowE:=Aj.keep (ok':=fun b=>(B<b∧¬ b=T∧¬ b=P)∧(Value.slice (some ⟨g9,0,none⟩) (ls.length+1) cp9).ownBlock≠some b) Al rowE (Sh.of_fr fm (fun b hb hlt=>⟨hb,by simp;exact hb.1.2.2⟩));have rowS:=Aj.keep (ok':=fun b=>(B<b∧¬ b=T∧¬ b=P)∧(Value.slice (some ⟨g8,0,none⟩) (args.length+1) cp8).ownBlock≠some b) Cr rowS (Sh.of_fr fm (fun b hb hlt=>⟨hb,by simp;exact hb.1.2.2⟩));clear fm;go_wp2_with fail
     go_roundw
     case rel=>exact⟨true,ls++[Aq u st0],args++[(.mk k3 a3 nm3 n3 s3 ls3 args3 arms3)],_,_,_,_,_,rfl,F,g0,q0,rowS,rowE,h0,(by have:=HLE0.out;simp only at *;omega),(by have:=HACC.out;simp at this ⊢;omega),(by have:=HAL.out;simp;omega),Hz (fun x' st' h=>HR1.out _ _ (by
      have hh:=Jt hu HOK.out hu1 hr3 hv hb (z:=x') (st':=st') (by rw[if_pos rfl,if_pos rfl];(first|(rw[if_pos rfl] at h;exact h)| (rw[if_pos trivial] at h;exact h)))
      (first|(rw[if_pos rfl];exact hh)| (rw[if_pos trivial];exact hh))))⟩
     case measure =>
      have hin1:=h0.inb;have hpl1:=h0.pl;rw[hpl1,hpl0]
      simp only at *
      omega
    | false =>
     refine(may_no [44] P g c ts st4 v hv hb w3_ h0 HE.out).mono ?_;rintro e y10 ⟨rfl,fm⟩;have g0:=fm.keep g0 nE;have q0:=fm.keep q0 nE;have F:=F.trans0 fm;have h0:=h0.fr fm;have rowE:=Aj.keep (ok':=fun b=>(B<b∧¬ b=T∧¬ b=P)∧(Value.slice (some ⟨g9,0,none⟩) (ls.length+1) cp9).ownBlock≠some b) Al rowE (Sh.of_fr fm (fun b hb hlt=>⟨hb,fun x=>by cases x⟩));have rowS:=Aj.keep (ok':=fun b=>(B<b∧¬ b=T∧¬ b=P)∧(Value.slice (some ⟨g8,0,none⟩) (args.length+1) cp8).ownBlock≠some b) Cr rowS (Sh.of_fr fm (fun b hb hlt=>⟨hb,fun x=>by cases x⟩));clear fm;go_wp2_with fail
     go_roundw
     case rel=>exact⟨false,ls++[Aq u st0],args++[(.mk k3 a3 nm3 n3 s3 ls3 args3 arms3)],_,_,_,_,_,rfl,F,g0,q0,rowS,rowE,h0,(by have:=HLE0.out;omega),(by have:=HACC.out;simp at this ⊢;omega),(by have:=HAL.out;simp;omega),Hz (fun x' st' h=>HR1.out _ _ (by
      have hh:=Jt hu HOK.out hu1 hr3 hv hb (z:=x') (st':=st') (by rw[if_neg (by decide),if_neg (by decide)];(first|(rw[if_neg (by decide)] at h;exact h)| (rw[if_neg id] at h;exact h)))
      (first|(rw[if_pos rfl];exact hh)| (rw[if_pos trivial];exact hh))))⟩
     case measure =>
      have hpl1:=h0.pl;rw[hpl1,hpl0]
      simp only at *
      omega
end
theorem L4(ts:List Tok)(hE:Be ts)(N:Nat)(ih:Dp ts N):GB ts (N+1):=by
 intro P g c st a w h hm;obtain⟨t,ht⟩:=At h.inb
 cases hb:isB t st.ok [[125]] with
 | true=>exact Kv ts hE N ih P g c st a w h hm t ht hb
 | false =>
  obtain⟨n,hn⟩:=At (ts:=ts) (i:=min (st.i+1) (ts.length-1)) (by have:=h.inb;omega)
  cases hk:(t.k==1)with
  | false=>exact Gg ts hE N ih P g c st a w h hm t ht hb n _ rfl hn (.inl hk)
  | true =>
   cases hk7:(n.k==7)with
   | false=>exact Gg ts hE N ih P g c st a w h hm t ht hb n _ rfl hn (.inr ⟨hk,.inl hk7⟩)
   | true =>
    cases hx:(n.text==[61])with
    | false=>exact Gg ts hE N ih P g c st a w h hm t ht hb n _ rfl hn (.inr ⟨hk,.inr ⟨hk7,hx⟩⟩)
    | true=>exact Nr ts hE N ih P g c st a w h hm t ht hb n _ rfl hn hk hk7 hx
end Go.Proofs.YtpjkfeehgookkaaGreatDoor
