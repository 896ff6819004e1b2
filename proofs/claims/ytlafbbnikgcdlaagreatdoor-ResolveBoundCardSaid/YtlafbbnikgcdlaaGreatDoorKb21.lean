/- A part of the proof: Nm, Nn, No, Np2, Np3, Np4, Nq, Nt. -/
import Derived.Test.YtlafbbnikgcdlaaGreatDoorKb18
namespace Go.Proofs.YtlafbbnikgcdlaaGreatDoor
open Go.RowKit
open _root_.Go.Proofs.Tryz
set_option linter.all false
set_option maxHeartbeats 16000000
set_option maxRecDepth 100000
variable{p:Prop}
open List renaming length_append→La',getElem?_eq_getElem→Lg'
open Nat renaming lt_of_lt_of_le→Nl'
section
attribute [local go_sem ↓] Go.wp_at_zero Go.wp_at_succ
theorem nn52(h:p:=by
 clear HK0
 all_goals
  have HK:=Hz hk;have t2:(k==2)=false:=by simp;omega
  have t7:(k==7)=false:=by simp;omega
  have t8:(k==8)=false:=by simp;omega
  have t9:(k==9)=false:=by simp;omega
  clear hk;go_enter func94,ntmps94;go_wp2_with fail;obtain⟨g0,g1,g2,f0,z0⟩:=Gy w (.cells #[vI k,vI a,vS nm,vI n,vS s,.slice A5 ls.length c5,.slice A6 args.length c6] 123) Ep (.cells #[vI k,vI 0,vI n,vS s,vZ,vZ] 76);unfold Lw at g0 g1 g2 f0 z0
  generalize ((w.alloc (.cells #[vI k,vI a,vS nm,vI n,vS s,.slice A5 ls.length c5,.slice A6 args.length c6] 123)).alloc Ep).alloc (.cells #[vI k,vI 0,vI n,vS s,vZ,vZ] 76)=x5 at *
  have hX:(tmP (.mk k a nm n s ls args) m S)=(.mk k 0 n s [] (Bt args m S).1,(Bt args m S).2):=by
   rw[Hl];have hk:=HK.out;unfold preP;rw[if_neg oM,if_neg oM,if_neg oM,if_neg oM,if_neg oM]
  have hpre:Mc w0 P A w S k a nm n s ls args m x5:=⟨0,s,[],none,0,fun _=>[],S,A,c,hX,g1,g2,An.nil_,(Stp.refl H.out).fr0 f0,HB.out.mono (by simp only[szP];omega),HM.out,fun a e => .inl (H.out.own_lt a e),oM⟩
  have HPRE:=Hz hpre;clear hpre g0 g1 g2 f0 z0 hX m0 m1 m2 m3 y0 y1 y2 y3 t2 t7 t8 t9 HK
 all_goals
  exact qq1):p:=h
theorem tpat_other(N:Nat)(ih:TPC N)(k:Int)(hk0:¬ (k=2∨k=7∨k=8∨k=9)):TPCk (N+1) k:=by
 intro a nm n s ls args A5 A6 c5 c6 w0 w ok P S A c m hN hW hx h hb hm;have kqq14:=@Hz _ @nn52;exact qq14
theorem nn51(h:p:=by
 clear HK0
 all_goals
  have HK:=Hz hk;have t2:(k==2)=false:=by simp;omega
  have t7:(k==7)=true:=by simp[hk]
  have t8:(k==8)=false:=by simp;omega
  have t9:(k==9)=false:=by simp;omega
  clear hk;go_enter func94,ntmps94;go_wp2_with fail;obtain⟨g0,g1,g2,f0,z0⟩:=Gy w (.cells #[vI k,vI a,vS nm,vI n,vS s,.slice A5 ls.length c5,.slice A6 args.length c6] 123) Ep (.cells #[vI k,vI 0,vI n,vS nm,vZ,vZ] 76);unfold Lw at g0 g1 g2 f0 z0
  generalize ((w.alloc (.cells #[vI k,vI a,vS nm,vI n,vS s,.slice A5 ls.length c5,.slice A6 args.length c6] 123)).alloc Ep).alloc (.cells #[vI k,vI 0,vI n,vS nm,vZ,vZ] 76)=x5 at *
  have hX:(tmP (.mk k a nm n s ls args) m S)=(.mk k 0 n nm [] (Bt args m S).1,(Bt args m S).2):=by
   rw[Hl];have hk:=HK.out;unfold preP;simp only[if_neg (show ¬ k=2 by omega),if_neg (show ¬ k=9 by omega),if_pos (show k=7∨k=8 by omega)]
  have hpre:Mc w0 P A w S k a nm n s ls args m x5:=⟨0,nm,[],none,0,fun _=>[],S,A,c,hX,g1,g2,An.nil_,(Stp.refl H.out).fr0 f0,HB.out.mono (by simp only[szP];omega),HM.out,fun a e => .inl (H.out.own_lt a e),oM⟩
  have HPRE:=Hz hpre;clear hpre g0 g1 g2 f0 z0 hX m0 m1 m2 m3 y0 y1 y2 y3 t2 t7 t8 t9 HK
 all_goals
  exact qq1):p:=h
theorem tpat_7(N:Nat)(ih:TPC N)(k:Int)(hk0:k=7):TPCk (N+1) k:=by
 intro a nm n s ls args A5 A6 c5 c6 w0 w ok P S A c m hN hW hx h hb hm;have kqq14:=@Hz _ @nn51;exact qq14
theorem nn50(h:p:=by
 clear HK0
 all_goals
  have HK:=Hz hk;have t2:(k==2)=false:=by simp;omega
  have t7:(k==7)=false:=by simp;omega
  have t8:(k==8)=true:=by simp[hk]
  have t9:(k==9)=false:=by simp;omega
  clear hk;go_enter func94,ntmps94;go_wp2_with fail;obtain⟨g0,g1,g2,f0,z0⟩:=Gy w (.cells #[vI k,vI a,vS nm,vI n,vS s,.slice A5 ls.length c5,.slice A6 args.length c6] 123) Ep (.cells #[vI k,vI 0,vI n,vS nm,vZ,vZ] 76);unfold Lw at g0 g1 g2 f0 z0
  generalize ((w.alloc (.cells #[vI k,vI a,vS nm,vI n,vS s,.slice A5 ls.length c5,.slice A6 args.length c6] 123)).alloc Ep).alloc (.cells #[vI k,vI 0,vI n,vS nm,vZ,vZ] 76)=x5 at *
  have hX:(tmP (.mk k a nm n s ls args) m S)=(.mk k 0 n nm [] (Bt args m S).1,(Bt args m S).2):=by
   rw[Hl];have hk:=HK.out;unfold preP;simp only[if_neg (show ¬ k=2 by omega),if_neg (show ¬ k=9 by omega),if_pos (show k=7∨k=8 by omega)]
  have hpre:Mc w0 P A w S k a nm n s ls args m x5:=⟨0,nm,[],none,0,fun _=>[],S,A,c,hX,g1,g2,An.nil_,(Stp.refl H.out).fr0 f0,HB.out.mono (by simp only[szP];omega),HM.out,fun a e => .inl (H.out.own_lt a e),oM⟩
  have HPRE:=Hz hpre;clear hpre g0 g1 g2 f0 z0 hX m0 m1 m2 m3 y0 y1 y2 y3 t2 t7 t8 t9 HK
 all_goals
  have kqq136:=@Hz _ @nn337;exact qq136):p:=h
theorem nn111(h:p:=by
 refine Db 9 (fun w'=>(w'.cell? ⟨C,0,none⟩=some (vI k2)∧w'.cell? ⟨C,1,none⟩=some (vI a2)∧w'.cell? ⟨C,2,none⟩=some (vS nm2)∧w'.cell? ⟨C,3,none⟩=some (vI n2)∧w'.cell? ⟨C,4,none⟩=some (vS s2)∧w'.cell? ⟨C,5,none⟩=some (.slice A52 ls2.length c52)∧w'.cell? ⟨C,6,none⟩=some (.slice A62 args2.length c62))∧w'.cell? ⟨T,5,none⟩=some (.slice A9 i c9)) kR kR rfl ⟨⟨e0,e1,e2,e3,e4,e5,e6⟩,l5⟩ (fun K hK hHeld=>?hspq2);dsimp only[List.take];refine Af (i:=0) (v:=?vpq2_0) rfl kR kR kR (fun _ _ _ h=>h) (Or.inl ⟨by rfl,?ypq2_0⟩) hHeld ?rpq2_0
 case ypq2_0 =>
  exact qq54
 (try simp only[Act.put,sX])
 refine Af (i:=1) (v:=?vpq2_1) rfl kR kR kR (fun _ _ _ h=>h) (Or.inl ⟨by rfl,?ypq2_1⟩) hHeld ?rpq2_1
 case ypq2_1 =>
  exact qq54
 (try simp only[Act.put,sX])
 refine Af (i:=2) (v:=?vpq2_2) rfl kR kR kR (fun _ _ _ h=>h) (Or.inl ⟨by rfl,?ypq2_2⟩) hHeld ?rpq2_2
 case ypq2_2 =>
  exact qq54
 (try simp only[Act.put,sX])
 refine Af (i:=3) (v:=?vpq2_3) rfl kR kR kR (fun _ _ _ h=>h) (Or.inl ⟨by rfl,?ypq2_3⟩) hHeld ?rpq2_3
 case ypq2_3 =>
  exact qq54
 (try simp only[Act.put,sX])
 refine Af (i:=4) (v:=?vpq2_4) rfl kR kR kR (fun _ _ _ h=>h) (Or.inl ⟨by rfl,?ypq2_4⟩) hHeld ?rpq2_4
 case ypq2_4 =>
  exact qq54
 (try simp only[Act.put,sX])
 refine Am (i:=5) rfl kR (fun K1 hK1=>?tpq2_5);have kqq238:=@Hz _ @nn459;exact qq238):p:=h
theorem nn283(h:p:=by
 refine hK1.out _ _ (⟨M9,u5⟩) (fun hHeld=>?upq2_7);clear hK1 K1
 (try simp only[Act.put,sX])
 refine Af (i:=8) (v:=?vpq2_8) rfl kR kR kR (fun _ _ _ h=>h) (Or.inl ⟨by rfl,?ypq2_8⟩) hHeld ?rpq2_8
 case ypq2_8 =>
  exact qq54
 exact qq21):p:=h
theorem nn337(h:p:=by
 go_loopw [56] (fun iv wr=>∃ (i:Nat) (A9:Option Addr) (c9:Nat) (cs:Nat→List Value) (A':Option Addr) (c':Nat),iv=vI i∧i≤args.length∧Hid (wr.heap[R]?=some Ep)∧Hid (wr.heap[T]?=some (.cells #[vI k,vI V,vI n,vS sx,.slice A4 lsx.length c4,.slice A9 i c9] 76 (0,0)))∧Hid (Gc wr (TOk X5 A') (.slice A9 i c9) (Bt (args.take i) m SP).1 cs)∧Hid (Stp w0 P A w (Bt (args.take i) m SP).2 A' c' wr)∧Hid (Gp wr (LOk (w.heap.size+3) X5 A') (.slice A4 lsx.length c4) lsx cs4)∧Hid (∀ a,A'=some a→a.block<w.heap.size∨w.heap.size+3≤a.block)∧Hid (X5≤wr.heap.size)) (fun iv wr=>args.length-(intOf iv).toNat)
 case atStart=>exact⟨0,none,0,fun _=>[],A1,c1,rfl,oM,G1,G2,Hz An.nil_,ST,LB,HA,Hz oM⟩
 case round =>
  obtain⟨i,A9,c9,cs,A',c',rfl,hi,K1,K2,KR,KS,KL,KA,KZ⟩:=hrel;clear G1 G2 ST LB HA;have hz5:=Z5.out;have q1:(0:Int)≤(i:Int):=by omega
  by_cases hlt:i<args.length
  ·have kqq34:=@Hz _ @nn111;exact qq34
  ·exact qq47):p:=h
theorem nn459(h:p:=by
 refine hK1.out _ _ (⟨M7,u5⟩) (fun hHeld=>?upq2_5);clear hK1 K1
 (try simp only[Act.put,sX])
 refine Am (i:=6) rfl kR (fun K1 hK1=>?tpq2_6);go_simp;go_simp;refine hK1.out _ _ (⟨(Ao (Ae Q6 _)).1,(Bl (Ae G6 _)).1.2.2.2.2.2⟩) (fun hHeld=>?upq2_6);clear hK1 K1
 (try simp only[Act.put,sX])
 refine Am (i:=7) rfl kR (fun K1 hK1=>?tpq2_7);have kqq102:=@Hz _ @nn283;exact qq102):p:=h
theorem tpat_8(N:Nat)(ih:TPC N)(k:Int)(hk0:k=8):TPCk (N+1) k:=by
 intro a nm n s ls args A5 A6 c5 c6 w0 w ok P S A c m hN hW hx h hb hm;have kqq14:=@Hz _ @nn50;exact qq14
theorem nn49(h:p:=by
 clear HK0
 all_goals
  have HK:=Hz hk;have t2:(k==2)=false:=by simp;omega
  have t7:(k==7)=false:=by simp;omega
  have t8:(k==8)=false:=by simp;omega
  have t9:(k==9)=true:=by simp[hk]
  clear hk;have cL:=fun W (hW:Dg w0 P S A c W)=>Hz (Rq hW ls A5 c5 d5 H5.out E5.out a b3)
  go_enter func94,ntmps94;go_wp2_with fail;obtain⟨g0,g1,g2,f0,z0⟩:=Gy w (.cells #[vI k,vI a,vS nm,vI n,vS s,.slice A5 ls.length c5,.slice A6 args.length c6] 123) Ep (.cells #[vI k,vI 0,vI n,vS s,vZ,vZ] 76);unfold Lw at g0 g1 g2 f0 z0
  generalize ((w.alloc (.cells #[vI k,vI a,vS nm,vI n,vS s,.slice A5 ls.length c5,.slice A6 args.length c6] 123)).alloc Ep).alloc (.cells #[vI k,vI 0,vI n,vS s,vZ,vZ] 76)=x5 at *
  refine(cL x5 (H.out.fr0 f0)).out.mono ?_;rintro e x6 ⟨v,cs4,rfl,hrow,hst⟩;obtain⟨A4,c4,rfl⟩:=Oq hrow.own
  have hnn:∀ b,w.heap.size≤b→b ∉ scL P A:=fun b hb hx=>by
   exact qq150
  have Q0:=hst.2.1.keep g0 (hnn _ oM);have Q1:=hst.2.1.keep g1 (hnn _ oM);have Q2:=hst.2.1.keep g2 (hnn _ oM);obtain⟨⟨l0,l1,l2,l3,l4,l5,l6⟩,_⟩:=Ao Q0;obtain⟨⟨u0,u1,u2,u3,u4,u5⟩,z10,z11,z12,z13,z14,z15⟩:=Bl Q2;have HQ1:=Hz Q1;have HQ2:=Hz Q2;have HROW:=Hz hrow;have HST:=Hz hst;have HF0:=Hz f0;have HZ:=Hz z0;clear Q0 Q1 Q2 hrow hst g0 g1 g2 f0 z0 cL;go_wp2_with fail;have fT:Fr [w.heap.size+1+1] x6 (x6.setCell ⟨w.heap.size+1+1,4,none⟩ (.slice A4 ls.length c4)):=(Fr.refl _ x6).setCell (p:=⟨w.heap.size+1+1,4,none⟩) (.inl sM) _;have hz:=HZ.out;have hzs:=HST.out.2.1.size
  have hX:(tmP (.mk k a nm n s ls args) m S)=(.mk k 0 n s ls (Bt args m (S.labels ls a)).1,(Bt args m (S.labels ls a)).2):=by
   rw[Hl];have hk:=HK.out;unfold preP;simp only[if_neg (show ¬ k=2 by omega),if_pos (show k=9 by omega),if_neg (show ¬ (k=7∨k=8) by omega)]
  have hpre:Mc w0 P A w S k a nm n s ls args m (x6.setCell ⟨w.heap.size+1+1,4,none⟩ (.slice A4 ls.length c4)):=⟨0,s,ls,A4,c4,cs4,S.labels ls a,A,c,hX,fT.keep HQ1.out sM,by simp[World.setCell,Array.getElem?_modify,HQ2.out],HROW.out.keep Cg (fun b hb hlt=>⟨⟨⟨oM,fun a e h=>by have:=H.out.own_lt a e;omega⟩,Nl' hlt fT.size⟩,fT.block b hlt sO,Nl' hlt fT.size⟩),(Stp.before HF0.out HST.out).fresh fT sO (fun a e=>by have:=H.out.own_lt a e;simp;omega) H.out.le (fun x hx=>by simp at hx;omega),SB.step (j:=0) (HB.out.mono (by simp only[szP];omega)) (Gr.labels S ls a),by rw[(K9 S ls a).1];exact HM.out,fun a e => .inl (H.out.own_lt a e),by have:=fT.size;omega⟩
  have HPRE:=Hz hpre
  generalize x6.setCell ⟨w.heap.size+1+1,4,none⟩ (.slice A4 ls.length c4)=x5 at *
  clear hpre hX m0 m1 m2 m3 y0 y1 y2 y3 t2 t7 t8 t9 HK l0 l1 l2 l3 l4 l5 l6 u0 u1 u2 u3 u4 u5 z10 z11 z12 z13 z14 z15 HQ1 HQ2 HROW HST HF0 HZ fT hz hzs hnn
 all_goals
  exact qq1):p:=h
theorem tpat_9(N:Nat)(ih:TPC N)(k:Int)(hk0:k=9):TPCk (N+1) k:=by
 intro a nm n s ls args A5 A6 c5 c6 w0 w ok P S A c m hN hW hx h hb hm;have kqq14:=@Hz _ @nn49;exact qq14
theorem nn47(h:p:=by
 have kqq77:=@Hz _ @nn211;exact qq77):p:=h
theorem nn386b(h:p:=by
 clear cC m0 m1 m2 m3 y0 y1 y2 y3 hcm c0 hcap hml mm1 mm2 mm3
 all_goals
  have hnn:∀ b,w.heap.size≤b→b ∉ scL P A:=fun b hb hx=>by
   rcases Ay.1 hx with e|⟨a,e,e2⟩
   ·omega
   ·have:=H.out.own_lt a e;omega
  have hS6:=H.out.fr0 (f0.trans f6);have Q0:=f6.keep g0 nE;have Q1:=f6.keep g1 nE;have Q2:=f6.keep g2 nE;have hz6:=f6.size;have F6:=Hz (f0.trans f6);clear g0 g1 g2 f6 f0
  obtain⟨SF,hSF⟩:∃ SF,SF=(if RR=true then S.fail 24 a else S):=⟨_,rfl⟩
  have HSF:=Hz hSF;have HGR:Hid (Gr S SF 0):=Hz (by rw[hSF];split;exact Gr.fail _ _ _;exact Gr.refl _);have HSN:Hid (SF.l=S.l∧SF.n=S.n):=Hz (by rw[hSF];split;exact Lr _ _ _;exact⟨rfl,rfl⟩);clear hSF;obtain rfl:=HRX.out;clear HRX
  have h7:Stp w0 P A x6 SF A c x6:=by
   have e7:SF=S:=by rw[HSF.out];simp
   rw[e7];exact Stp.refl hS6
  generalize hx7:x6=x7 at *
  all_goals
   have R0:=h7.2.1.keep Q0 (hnn _ oM);have R1:=h7.2.1.keep Q1 (hnn _ oM);have R2:=h7.2.1.keep Q2 (hnn _ oM);have hz7:=h7.2.1.size;obtain⟨⟨l0,l1,l2,l3,l4,l5,l6⟩,_⟩:=Ao R0;have cB7:=cB x7 SF A c h7.1 (SB.step (j:=0) (hsb.mono (by simp only[szP];omega)) HGR.out);have H7:=Hz h7;clear h7 cB Q0 Q1 Q2;go_wp2_with fail;refine cB7.out.mono ?_;rintro e x8 ⟨A1,c1,rfl,h8⟩;clear cB7 l0 l1 l2 l3 l4 l5 l6;have Q0:=h8.2.1.keep R0 (hnn _ oM);have Q1:=h8.2.1.keep R1 (hnn _ oM);have Q2:=h8.2.1.keep R2 (hnn _ oM);obtain⟨⟨l0,l1,l2,l3,l4,l5,l6⟩,_⟩:=Ao Q0;obtain⟨⟨u0,u1,u2,u3,u4,u5⟩,z10,z11,z12,z13,z14,z15⟩:=Bl Q2;have H8:=Hz h8;clear h8;go_wp2_with fail;have fT:Fr [w.heap.size+1+1] x8 (x8.setCell ⟨w.heap.size+1+1,1,none⟩ (vI SF.n)):=(Fr.refl _ x8).setCell (p:=⟨w.heap.size+1+1,1,none⟩) (.inl sM) _;have hz8:=H8.out.2.1.size;have hsN:=HSN.out
   have hX:(tmP (.mk k a nm n s ls args) m S)=(.mk k SF.n n s [] (Bt args m (SF.bind nm)).1,(Bt args m (SF.bind nm)).2):=by
    rw[Hl];have hk:=HK.out;unfold preP;simp only[if_pos (show k=2 by omega),if_neg (show ¬ k=9 by omega),if_neg (show ¬ (k=7∨k=8) by omega)];have e8:(if (S.l.drop m).any (fun b=>b.1==nm)=true then S.fail 24 a else S)=SF:=by rw[HRR.out,HSF.out] <;> simp
    rw[e8,hsN.2]
   have hA1:∀ a,A1=some a→a.block<w.heap.size∨w.heap.size+3≤a.block:=fun a e=>by
    rcases H8.out.2.2 a e with h|h
    ·exact .inl (H.out.own_lt a h)
    ·right;omega
   have hst8:=(Stp.before F6.out H7.out).trans H8.out;have hbn:=Gd SF nm
   have hpre:Mc w0 P A w S k a nm n s ls args m (x8.setCell ⟨w.heap.size+1+1,1,none⟩ (vI SF.n)):=⟨SF.n,s,[],none,0,fun _=>[],SF.bind nm,A1,c1,hX,fT.keep Q1 sM,by simp[World.setCell,Array.getElem?_modify,Q2],An.nil_,hst8.fresh fT sO (fun a e=>by have:=hA1 a e;simp;omega) H.out.le (fun x hx=>by simp at hx;omega),SB.step (j:=0+1) (hsb.mono (by simp only[szP];omega)) (HGR.out.trans (Gr.bind SF nm)),by obtain⟨r,hr⟩:=hbn;rw[hr,La',hsN.1];have:=HM.out;omega,hA1,by have:=fT.size;omega⟩
   have HPRE:=Hz hpre
   generalize x8.setCell ⟨w.heap.size+1+1,1,none⟩ (vI SF.n)=x5 at *
   clear hpre hX t2 t7 t8 t9 HK l0 l1 l2 l3 l4 l5 l6 u0 u1 u2 u3 u4 u5 z10 z11 z12 z13 z14 z15 fT hz8 hsN hA1 hst8 hbn Q0 Q1 Q2 R0 R1 R2 hz7 hz6 hnn hsb
 all_goals
  exact qq1):p:=h
theorem qq3b(h:p:=by
 have kqq186:=@Hz _ @nn386b;exact qq186):p:=h
theorem nn96(h:p:=by
 simp only[hcm,if_true] at cC;exact qq3b):p:=h
theorem nn211(h:p:=by
 obtain⟨RR,hrr⟩:∃ RR,RR=false:=⟨_,rfl⟩
 have kqq31:=@Hz _ @nn96;exact qq31):p:=h
theorem tpat_2_np2(N:Nat)(ih:TPC N)(k:Int)(hk0:k=2):TPC2 (N+1) k (fun S c m nm=>c-m=0∧(S.l.drop m).any (fun b=>b.1==nm)=false):=by
 intro a nm n s ls args A5 A6 c5 c6 w0 w ok P S A c m hN hW hx h hb hm hq0;have HQ:=Hz hq0;clear hq0;have kqq14:=@Hz _ @nn47;exact qq14
theorem nn46(h:p:=by
 have kqq77:=@Hz _ @nn212;exact qq77):p:=h
theorem nn97(h:p:=by
 simp only[if_neg hcm] at cC;exact qq2b):p:=h
theorem nn212(h:p:=by
 obtain⟨RR,hrr⟩:∃ RR,RR=true:=⟨_,rfl⟩
 have kqq31:=@Hz _ @nn97;exact qq31):p:=h
theorem tpat_2_np3(N:Nat)(ih:TPC N)(k:Int)(hk0:k=2):TPC2 (N+1) k (fun S c m nm=>¬ c-m=0∧(S.l.drop m).any (fun b=>b.1==nm)=true):=by
 intro a nm n s ls args A5 A6 c5 c6 w0 w ok P S A c m hN hW hx h hb hm hq0;have HQ:=Hz hq0;clear hq0;have kqq14:=@Hz _ @nn46;exact qq14
theorem nn45(h:p:=by
 have kqq77:=@Hz _ @nn213;exact qq77):p:=h
theorem nn98(h:p:=by
 simp only[if_neg hcm] at cC;exact qq3b):p:=h
theorem nn213(h:p:=by
 obtain⟨RR,hrr⟩:∃ RR,RR=false:=⟨_,rfl⟩
 have kqq31:=@Hz _ @nn98;exact qq31):p:=h
theorem tpat_2_np4(N:Nat)(ih:TPC N)(k:Int)(hk0:k=2):TPC2 (N+1) k (fun S c m nm=>¬ c-m=0∧(S.l.drop m).any (fun b=>b.1==nm)=false):=by
 intro a nm n s ls args A5 A6 c5 c6 w0 w ok P S A c m hN hW hx h hb hm hq0;have HQ:=Hz hq0;clear hq0;have kqq14:=@Hz _ @nn45;exact qq14
end
theorem Ig:∀ N,TPC N
 | 0=>by intro _ _ _ _ _ _ _ _ _ _ _ _ _ _ _ _ _ _ _ h;exact absurd h (Nat.not_lt_zero _)
 | N+1=>by
  intro k;have hkc:k=2∨k=7∨k=8∨k=9∨¬ (k=2∨k=7∨k=8∨k=9):=by omega
  rcases hkc with hk|hk|hk|hk|hk
  ·intro a nm n s ls args A5 A6 c5 c6 w0 w ok P S A c m hN hW hx h hb hm;cases hr:(S.l.drop m).any (fun b=>b.1==nm)<;> by_cases hc:c-m=0
   ·exact tpat_2_np2 N (Ig N) k hk a nm n s ls args A5 A6 c5 c6 w0 w ok P S A c m hN hW hx h hb hm ⟨hc,hr⟩
   ·exact tpat_2_np4 N (Ig N) k hk a nm n s ls args A5 A6 c5 c6 w0 w ok P S A c m hN hW hx h hb hm ⟨hc,hr⟩
   ·exact tpat_2_np N (Ig N) k hk a nm n s ls args A5 A6 c5 c6 w0 w ok P S A c m hN hW hx h hb hm ⟨hc,hr⟩
   ·exact tpat_2_np3 N (Ig N) k hk a nm n s ls args A5 A6 c5 c6 w0 w ok P S A c m hN hW hx h hb hm ⟨hc,hr⟩
  ·exact tpat_7 N (Ig N) k hk
  ·exact tpat_8 N (Ig N) k hk
  ·exact tpat_9 N (Ig N) k hk
  ·exact tpat_other N (Ig N) k hk
section
attribute [local go_sem ↓] Go.wp_at_zero Go.wp_at_succ
theorem Rk(N:Nat)(ih:TMC N)(l:List (Al×Ad))(A7:Option Addr)(c7:Nat)(cp ce:Nat→List Value)(w0 w:World)(ok:Nat→Prop)(P:Nat)(S:Sc)(A:Option Addr)(c:Nat)
  (hN:B1 l<N) (hm:∀ (i:Nat) (p:Al) (x:Ad),l[i]?=some (p,x)→Bh x=true) (hwp:∀ (i:Nat) (p:Al) (x:Ad),l[i]?=some (p,x)→WlP p) (hwe:∀ (i:Nat) (p:Al) (x:Ad),l[i]?=some (p,x)→WlE x)
  (h7:En w0 ok (.slice A7 l.length c7) l.length 15 (fun i=>cp i++ce i)) (e7:∀ (i:Nat) (p:Al) (x:Ad),l[i]?=some (p,x)→Bw w0 ok p (cp i)) (e8:∀ (i:Nat) (p:Al) (x:Ad),l[i]?=some (p,x)→Ak w0 ok x (ce i))
  (h:Dg w0 P S A c w) (hb:SB S (B1 l)) (hl:l.length≤650000000000):
  Calls prog 43 #[.pointer (some ⟨P,0,none⟩),.slice A7 l.length c7] w (CsRes w0 P A w (Eb l S).1 (Eb l S).2):=by
 have IH:=Hz ih;have HN:=Hz hN;have HM:Hid (∀ (i:Nat) (p:Al) (x:Ad),l[i]?=some (p,x)→Bh x=true):=Hz hm;have HWP:Hid (∀ (i:Nat) (p:Al) (x:Ad),l[i]?=some (p,x)→WlP p):=Hz hwp;have HWE:Hid (∀ (i:Nat) (p:Al) (x:Ad),l[i]?=some (p,x)→WlE x):=Hz hwe;have H7:=Hz h7;have E7:Hid (∀ (i:Nat) (p:Al) (x:Ad),l[i]?=some (p,x)→Bw w0 ok p (cp i)):=Hz e7;have E8:Hid (∀ (i:Nat) (p:Al) (x:Ad),l[i]?=some (p,x)→Ak w0 ok x (ce i)):=Hz e8;have H:=Hz h;have HB:=Hz hb;have HP:=Hz h.lt;obtain⟨i0,hi,hz0,hz1,hz2⟩:=info_parts W8;have HI:=Hz hi;have HZ0:=Hz hz0;have HZ1:=Hz hz1;have HZ2:=Hz hz2;clear ih hN hm hwp hwe h7 e7 e8 h hb hi hz0 hz1 hz2;go_enter func43,ntmps43;go_wp2_with fail
 go_loopw [5,12] (fun ov iv wr=>∃ (i:Nat) (A9:Option Addr) (c9:Nat) (cs:Nat→List Value) (A':Option Addr) (c':Nat),ov = .slice A9 i c9∧iv=vI i∧i≤l.length∧Hid (Qc wr (TOk w.heap.size A') (.slice A9 i c9) (Eb (l.take i) S).1 cs)∧Hid (Stp w0 P A w (Eb (l.take i) S).2 A' c' wr)) (fun ov iv wr=>l.length-(intOf iv).toNat)
 case atStart=>exact⟨0,none,0,fun _=>[],A,c,rfl,rfl,oM,Hz An.nil_,Hz (Stp.refl H.out)⟩
 case round =>
  obtain⟨i,A9,c9,cs,A',c',rfl,rfl,hi,HR,HS⟩:=hrel;have q1:(0:Int)≤(i:Int):=by omega
  by_cases hlt:i<l.length
  ·obtain⟨p,x,hy⟩:∃ p x,l[i]?=some (p,x):=⟨l[i].1,l[i].2,Lg' hlt⟩
   have q2:(i:Int)<(l.length:Int):=by omega
   obtain⟨g,o,rfl,hg,hc⟩:=H7.out.elem HS.out.1.fr hlt;have hmx:=HM.out i p x hy;have hwp:=HWP.out i p x hy;have hwe:=HWE.out i p x hy;have hsz:=szAs_take hy;have htk:=tmAs_take hy S;rw[tmA_eq] at htk;dsimp only at htk;have hlen:(Eb (l.take i) S).1.length=i:=by rw[Lh,List.length_take];omega
   have hgr:=Qv (l.take i) S;obtain⟨k3,a3,nm3,n3,s3,ls3,args3,A53,c53,A63,c63,k2,a2,nm2,n2,s2,ls2,args2,arms2,A52,c52,A62,c62,A72,c72,rfl,rfl,hp2,hx2,y0,y1,y2,y3,y4,y5,y6,y7,y8,y9,y10,y11,y12,y13,y14⟩:=Wg (E7.out i _ _ hy) (E8.out i _ _ hy) hc;have hSB:SB (Eb (l.take i) S).2 (szP (.mk k3 a3 nm3 n3 s3 ls3 args3)+szE (.mk k2 a2 nm2 n2 s2 ls2 args2 arms2)):=SB.step (HB.out.mono oM) hgr
   generalize hXS:(Eb (l.take i) S).1=XS at *
   generalize hSS:(Eb (l.take i) S).2=SS at *
   have hgp:=tmP_gr (.mk k3 a3 nm3 n3 s3 ls3 args3) SS.l.length SS;obtain⟨r,hpre⟩:=V1 (.mk k3 a3 nm3 n3 s3 ls3 args3) SS.l.length SS;have f1:=(Fr.refl [] wr).alloc (.cells #[vI k3,vI a3,vS nm3,vI n3,vS s3,.slice A53 ls3.length c53,.slice A63 args3.length c63,vI k2,vI a2,vS nm2,vI n2,vS s2,.slice A52 ls2.length c52,.slice A62 args2.length c62,.slice A72 arms2.length c72] 125);have p1:=Ag wr (.cells #[vI k3,vI a3,vS nm3,vI n3,vS s3,.slice A53 ls3.length c53,.slice A63 args3.length c63,vI k2,vI a2,vS nm2,vI n2,vS s2,.slice A52 ls2.length c52,.slice A62 args2.length c62,.slice A72 arms2.length c72] 125);have c0:=(f1.cell (p:=⟨P,0,none⟩) HS.out.1.lt (fun x=>by cases x)).trans HS.out.1.cells.1;have cP:=Hz (Ig (szP (.mk k3 a3 nm3 n3 s3 ls3 args3)+1) k3 a3 nm3 n3 s3 ls3 args3 A53 A63 c53 c63 w0 (wr.alloc (.cells #[vI k3,vI a3,vS nm3,vI n3,vS s3,.slice A53 ls3.length c53,.slice A63 args3.length c63,vI k2,vI a2,vS nm2,vI n2,vS s2,.slice A52 ls2.length c52,.slice A62 args2.length c62,.slice A72 arms2.length c72] 125)) ok P SS A' c' SS.l.length oM hwp hp2 (HS.out.1.fr0 f1) (hSB.mono oM) oM);have hSB2:=SB.step hSB hgp;have hml:SS.l.length≤(tmP (.mk k3 a3 nm3 n3 s3 ls3 args3) SS.l.length SS).2.l.length:=by rw[hpre,La'];omega
   have hszN:szE (.mk k2 a2 nm2 n2 s2 ls2 args2 arms2)<N:=by have:=HN.out;omega
   generalize hXP:(tmP (.mk k3 a3 nm3 n3 s3 ls3 args3) SS.l.length SS).1=XP at *
   generalize hSP:(tmP (.mk k3 a3 nm3 n3 s3 ls3 args3) SS.l.length SS).2=SP at *
   have cW:=fun W A2 c2 hW=>Hz (Jc N IH.out k2 a2 nm2 n2 s2 ls2 args2 arms2 A52 A62 A72 c52 c62 c72 w0 W ok P SP A2 c2 SS.l.length hszN hmx hwe hx2 hW hSB2 hml)
   generalize hX:(tmE (.mk k2 a2 nm2 n2 s2 ls2 args2 arms2) SP).1=X at *
   generalize hS3:(tmE (.mk k2 a2 nm2 n2 s2 ls2 args2 arms2) SP).2.cut SS.l.length=S3 at *
   have HWZ:=Hz (World.size_alloc wr (.cells #[vI k3,vI a3,vS nm3,vI n3,vS s3,.slice A53 ls3.length c53,.slice A63 args3.length c63,vI k2,vI a2,vS nm2,vI n2,vS s2,.slice A52 ls2.length c52,.slice A62 args2.length c62,.slice A72 arms2.length c72] 125));have HTK:=Hz htk;have HLEN:=Hz hlen;clear hc hmx hwp hwe hsz htk hlen hgr hp2 hx2 hSB hXS hSS hy hgp hpre hSB2 hml hszN hXP hSP hX hS3;go_wp2_with fail;clear y0 y1 y2 y3 y4 y5 y6 y7 y8 y9 y10 y11 y12 y13 y14 c0
   generalize wr.alloc (.cells #[vI k3,vI a3,vS nm3,vI n3,vS s3,.slice A53 ls3.length c53,.slice A63 args3.length c63,vI k2,vI a2,vS nm2,vI n2,vS s2,.slice A52 ls2.length c52,.slice A62 args2.length c62,.slice A72 arms2.length c72] 125)=wa at *
   have hwz:wa.heap.size=wr.heap.size+1:=HWZ.out
   generalize hC:wr.heap.size=C at *
   refine cP.out.mono ?_;rintro e y1 ⟨k1,v1,n1,s1,B4,n4,d4,B5,n5,d5,A2,c2,rfl,hT,hst⟩
   have hnC:C ∉ scL P A':=fun hx=>by
    rcases Ay.1 hx with e|⟨a,e,e2⟩
    ·have:=HS.out.1.lt;omega
    ·have:=HS.out.1.own_lt a e;omega
   have hrow:=Ge Gt HR.out HS.out.1 HP.out f1 hst;have pC1:=hst.2.1.keep p1 hnC;have f2:=(Fr.refl [] y1).alloc (.cells #[vI k1,vI v1,vI n1,.string ⟨s1⟩,.slice B4 n4 d4,.slice B5 n5 d5] 76);have pD:=Ag y1 (.cells #[vI k1,vI v1,vI n1,.string ⟨s1⟩,.slice B4 n4 d4,.slice B5 n5 d5] 76);have pC:=f2.keep pC1 nE;have hCa:=Aa p1;have hCy:=Aa pC1;have hPy:=hst.1.lt;clear cP;go_wp2_with fail
   generalize hD:y1.heap.size=D at *
   generalize y1.alloc (.cells #[vI k1,vI v1,vI n1,.string ⟨s1⟩,.slice B4 n4 d4,.slice B5 n5 d5] 76)=y2 at *
   have hs2:Dg w0 P SP A2 c2 y2:=hst.1.fr0 f2;have hlow:=HS.out.1.own_lt;have hPlt:=HS.out.1.lt;have hwaC:wa.heap.size=C+1:=hwz
   have hnC2:C ∉ scL P A2:=fun hx=>by
    rcases Ay.1 hx with e|⟨a,e,e2⟩
    ·omega
    ·rcases hst.2.2 a e with h1|h1
     ·have:=hlow a h1;omega
     ·omega
   have hnD:D ∉ scL P A2:=fun hx=>by
    rcases Ay.1 hx with e|⟨a,e,e2⟩
    ·omega
    ·have:=hst.1.own_lt a e;omega
   have hCB:some C≠(Value.slice A9 i c9).ownBlock:=fun e=>by have:=HR.out.own_lt C e.symm;omega
   have hDB:some D≠(Value.slice A9 i c9).ownBlock:=fun e=>by have:=HR.out.own_lt D e.symm;omega
   have hM:=Pc pC pD;have hCy2:=Aa pC;have hDy2:=Aa pD;obtain⟨m7,m8,m9,m10,m11,m12,m13,m14,t0,t1,t2,t3,t4,t5⟩:=hM;have HF1:=Hz f1;have HF2:=Hz f2;have HT0:=Hz hT;have HST:=Hz hst;have HROW:=Hz hrow;clear f1 f2 hT hst hrow hlow p1 pC1
   go_region_held3 (fun w'=>w'.cell? ⟨C,7,none⟩=some (vI k2)∧w'.cell? ⟨C,8,none⟩=some (vI a2)∧w'.cell? ⟨C,9,none⟩=some (vS nm2)∧w'.cell? ⟨C,10,none⟩=some (vI n2)∧w'.cell? ⟨C,11,none⟩=some (vS s2)∧w'.cell? ⟨C,12,none⟩=some (.slice A52 ls2.length c52)∧w'.cell? ⟨C,13,none⟩=some (.slice A62 args2.length c62)∧w'.cell? ⟨C,14,none⟩=some (.slice A72 arms2.length c72)∧w'.cell? ⟨D,0,none⟩=some (vI k1)∧w'.cell? ⟨D,1,none⟩=some (vI v1)∧w'.cell? ⟨D,2,none⟩=some (vI n1)∧w'.cell? ⟨D,3,none⟩=some (.string ⟨s1⟩)∧w'.cell? ⟨D,4,none⟩=some (.slice B4 n4 d4)∧w'.cell? ⟨D,5,none⟩=some (.slice B5 n5 d5)) (first|go_keep|exact M9|exact M7)
    ((first|((with_reducible refine(cW _ _ _ (hs2.fr0 (Fr.refl [] y2).drew)).out.mono ?_);rintro e x6 ⟨k4,a4,v4,n4',s4,E5,l5,r5,E6,l6,r6,E7,l7,r7,A3,c3,rfl,hX6,hst6⟩;have Q6:=hst6.2.1.keep (w:=y2.drew) pC hnC2;have R6:=hst6.2.1.keep (w:=y2.drew) pD hnD;have M7:=Pc Q6 R6)| (refine Av rF _ _ 32 rF 78 i0 _ 14 208 underlying32 HI.out HZ0.out HZ1.out HZ2.out rfl dC (.slice A9 i c9) i (Co cs i) rF (Gh Gt (Ge (w1:=y2.drew) Gt HROW.out HST.out.1 HP.out HF2.out.drew hst6) HLEN.out _) ⟨x6.heap.size,0,none⟩ 1 1 [vI k1,vI v1,vI n1,.string ⟨s1⟩,.slice B4 n4 d4,.slice B5 n5 d5,vI k4,vI a4,vI v4,vI n4',.string ⟨s4⟩,.slice E5 l5 r5,.slice E6 l6 r6,.slice E7 l7 r7] rF rfl (World.news_of_block (Ag x6 _)) (by simp[Value.oneCell']) (by simp only[maxLen];omega) oM ?_;intro v9 w9 hown9 hgrow9 hfp9;obtain⟨g9,cp9,hv9⟩:=Cd hown9;subst hv9;have Q9:=(hgrow9.block C (Aa (Ae Q6 _)) hCB).trans (Ae Q6 _);have R9:=(hgrow9.block D (Aa (Ae R6 _)) hDB).trans (Ae R6 _);have M9:=Pc Q9 R9)))
   all_goals
    have f6:=(Fr.refl [] x6).alloc (.cells #[vI k1,vI v1,vI n1,.string ⟨s1⟩,.slice B4 n4 d4,.slice B5 n5 d5,vI k4,vI a4,vI v4,vI n4',.string ⟨s4⟩,.slice E5 l5 r5,.slice E6 l6 r6,.slice E7 l7 r7] 78);have hr6:Qc (x6.alloc (.cells #[vI k1,vI v1,vI n1,.string ⟨s1⟩,.slice B4 n4 d4,.slice B5 n5 d5,vI k4,vI a4,vI v4,vI n4',.string ⟨s4⟩,.slice E5 l5 r5,.slice E6 l6 r6,.slice E7 l7 r7] 78)) (TOk w.heap.size A3) (.slice A9 i c9) XS cs:=(Ge (w1:=y2.drew) Gt HROW.out HST.out.1 HP.out HF2.out.drew hst6).keep Gt (Oz f6);have hz1:=HF1.out.size;have hz2:=HST.out.2.1.size;have hz3:=HF2.out.size;have hd7:y2.drew.heap.size=y2.heap.size:=rfl;have hz5:=HS.out.2.1.size;have hc6:J0 (x6.alloc (.cells #[vI k1,vI v1,vI n1,.string ⟨s1⟩,.slice B4 n4 d4,.slice B5 n5 d5,vI k4,vI a4,vI v4,vI n4',.string ⟨s4⟩,.slice E5 l5 r5,.slice E6 l6 r6,.slice E7 l7 r7] 78)) (TOk wa.heap.size A3) (XP,X) ([vI k1,vI v1,vI n1,.string ⟨s1⟩,.slice B4 n4 d4,.slice B5 n5 d5]++[vI k4,vI a4,vI v4,vI n4',.string ⟨s4⟩,.slice E5 l5 r5,.slice E6 l6 r6,.slice E7 l7 r7]):=.mk ((HT0.out.keep (Iu HST.out.1 oM HF2.out.drew hst6)).keep (Oz f6)) (hX6.keep (G5 oM f6)) rfl;have hs6:=((HS.out.trans (Stp.before HF1.out HST.out)).trans (Stp.before HF2.out.drew hst6)).fr0 f6;have hfin:=Yd Gt hr6 rF hc6 oM (fun gg hgg=>by have:=HR.out.own_lt gg hgg;omega) HP.out H.out.le hs6 (by rw[HLEN.out];exact hown9) hgrow9 hfp9;rw[← HTK.out.1,← HTK.out.2] at hfin;have HFIN:=Hz hfin;clear f6 hr6 hc6 hs6 hfin hown9 hgrow9 hfp9 R9 M9 Q9 Q6 R6 M7 hst6 hX6;go_wp2_with fail
    go_roundw
    case rel=>exact⟨i+1,_,_,_,A3,c3,rfl,by go_num,oM,Hz HFIN.out.1,Hz HFIN.out.2⟩
    case measure=>simp[intOf];omega
  ·have q2:¬ (i:Int)<(l.length:Int):=by omega
   have hil:i=l.length:=by omega
   subst hil;rw[List.take_length] at HR HS;have hlen:(Eb l S).1.length=l.length:=Lh l S;exact qq292
end
end Go.Proofs.YtlafbbnikgcdlaaGreatDoor
