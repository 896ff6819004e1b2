/- A part of the proof: Nx1, Nx9, Nx20, Nx12, Nx16, Nxe. -/
import Derived.Test.YtlafbbnikgcdlaaGreatDoorKb19
import Derived.Test.YtlafbbnikgcdlaaGreatDoorKb21
namespace Go.Proofs.YtlafbbnikgcdlaaGreatDoor
open Go.RowKit
open _root_.Go.Proofs.Tryz
set_option linter.all false
set_option maxHeartbeats 16000000
set_option maxRecDepth 100000
variable{p:Prop}
open List renaming length_append→La'
open Nat renaming le_refl→Nr'
section
attribute [local go_sem ↓] Go.wp_at_zero Go.wp_at_succ
theorem nn11(h:p:=by
 have t1:(k==1)=true:=by simp;omega
 have t7:(k==7)=false:=by simp;omega
 have t9:(k==9)=false:=by simp;omega
 have t20:(k==20)=false:=by simp;omega
 have kqq98:=@Hz _ @nn272;exact qq98):p:=h
theorem nn80(h:p:=by
 refine(cF x5 T0.st.1).out.mono ?_;rintro e x6 ⟨rfl,hst⟩;have T1:=T0.step hP hst;have kqq353:=@Hz _ @nn687;exact qq353):p:=h
theorem nn272(h:p:=by
 have kqq239:=@Hz _ @nn465;exact qq239):p:=h
theorem nn312(h:p:=by
 have hX:tmE (.mk k a nm n s ls args arms) S=(Pv a (S.find nm a).1,(S.find nm a).2):=by
  subst hk0;rw[Ul]
 have kqq4:=@Hz _ @nn11;exact qq4):p:=h
theorem nn465(h:p:=by
 have cF:=fun W (hW:Dg w0 P S A c W)=>Hz (sc_find hW nm a (by have:=HB.out.2.2;omega))
 generalize (S.find nm a).1=V at *
 generalize (S.find nm a).2=S2 at *
 have kqq24:=@Hz _ @nn80;exact qq24):p:=h
theorem nn500(h:p:=by
 have HT:=Hz T1;clear T0 T1 hst cF m0 m1 m2 m3 y0 y1 y2 y3;go_wp2_with fail
 have hZ:Fr [w.heap.size+1,w.heap.size+1+1] x6 ((((((((((x6.setCell ⟨w.heap.size+1+1,0,none⟩ (vI 1)).setCell ⟨w.heap.size+1+1,2,none⟩ (vI V)).setCell ⟨w.heap.size+1,0,none⟩ (vI 1)).setCell ⟨w.heap.size+1,1,none⟩ (vI a)).setCell ⟨w.heap.size+1,2,none⟩ (vI V)).setCell ⟨w.heap.size+1,3,none⟩ (vI 0)).setCell ⟨w.heap.size+1,4,none⟩ (vE)).setCell ⟨w.heap.size+1,5,none⟩ (vZ)).setCell ⟨w.heap.size+1,6,none⟩ (vZ)).setCell ⟨w.heap.size+1,7,none⟩ (vZ)):=(((((((((((Fr.refl [w.heap.size+1,w.heap.size+1+1] x6).setCell (p:=⟨w.heap.size+1+1,0,none⟩) (.inl sM) (vI 1)).setCell (p:=⟨w.heap.size+1+1,2,none⟩) (.inl sM) (vI V)).setCell (p:=⟨w.heap.size+1,0,none⟩) (.inl sM) (vI 1)).setCell (p:=⟨w.heap.size+1,1,none⟩) (.inl sM) (vI a)).setCell (p:=⟨w.heap.size+1,2,none⟩) (.inl sM) (vI V)).setCell (p:=⟨w.heap.size+1,3,none⟩) (.inl sM) (vI 0)).setCell (p:=⟨w.heap.size+1,4,none⟩) (.inl sM) (vE)).setCell (p:=⟨w.heap.size+1,5,none⟩) (.inl sM) (vZ)).setCell (p:=⟨w.heap.size+1,6,none⟩) (.inl sM) (vZ)).setCell (p:=⟨w.heap.size+1,7,none⟩) (.inl sM) (vZ))
 have hsz:((((((((((x6.setCell ⟨w.heap.size+1+1,0,none⟩ (vI 1)).setCell ⟨w.heap.size+1+1,2,none⟩ (vI V)).setCell ⟨w.heap.size+1,0,none⟩ (vI 1)).setCell ⟨w.heap.size+1,1,none⟩ (vI a)).setCell ⟨w.heap.size+1,2,none⟩ (vI V)).setCell ⟨w.heap.size+1,3,none⟩ (vI 0)).setCell ⟨w.heap.size+1,4,none⟩ (vE)).setCell ⟨w.heap.size+1,5,none⟩ (vZ)).setCell ⟨w.heap.size+1,6,none⟩ (vZ)).setCell ⟨w.heap.size+1,7,none⟩ (vZ)).heap.size=x6.heap.size:=by simp[World.setCell]
 have hG:=Aq (x:=(x6.setCell ⟨w.heap.size+1+1,0,none⟩ (vI 1)).setCell ⟨w.heap.size+1+1,2,none⟩ (vI V)) ((((Fr.refl [w.heap.size+1+1] x6).setCell (p:=⟨w.heap.size+1+1,0,none⟩) (.inl sM) (vI 1)).setCell (p:=⟨w.heap.size+1+1,2,none⟩) (.inl sM) (vI V)).keep HT.out.r (by simp only[List.mem_singleton];omega)) (vI 1) (vI a) (vI V) (vI 0) (vE) (vZ) (vZ) (vZ);unfold st8 at hG
 generalize (((((((((x6.setCell ⟨w.heap.size+1+1,0,none⟩ (vI 1)).setCell ⟨w.heap.size+1+1,2,none⟩ (vI V)).setCell ⟨w.heap.size+1,0,none⟩ (vI 1)).setCell ⟨w.heap.size+1,1,none⟩ (vI a)).setCell ⟨w.heap.size+1,2,none⟩ (vI V)).setCell ⟨w.heap.size+1,3,none⟩ (vI 0)).setCell ⟨w.heap.size+1,4,none⟩ (vE)).setCell ⟨w.heap.size+1,5,none⟩ (vZ)).setCell ⟨w.heap.size+1,6,none⟩ (vZ)).setCell ⟨w.heap.size+1,7,none⟩ (vZ)=Z at *
 have hX9:Au (x6) (TOk (w.heap.size+3) A) _ [vI 1,vI a,vI V,vI 0,vE,vZ,vZ,vZ]:=Au.leaf 1 a V 0 [];have hfin:=TSt.fin HT.out hP HLE.out hZ hX9;obtain⟨⟨g0,g1,g2,g3,g4,g5,g6,g7⟩,_⟩:=Ac hG;have hRz:=Aa hG;refine bodyPost_ret (v:=.agg #[vI 1,vI a,vI V,vI 0,vE,vZ,vZ,vZ]) ?_ rfl hfin;simp[results,Tryz.f20,go_sem,g0,g1,g2,g3,g4,g5,g6,g7]):p:=h
theorem nn687(h:p:=by
 have kqq251:=@Hz _ @nn500;exact qq251):p:=h
theorem term_1(N:Nat)(ih:TMC N)(k:Int)(hk0:k=1):Rb (N+1) k:=by
 have kqq116:=@Hz _ @nn312;exact qq116
theorem nn9(h:p:=by
 have t1:(k==1)=false:=by simp;omega
 have t7:(k==7)=false:=by simp;omega
 have t9:(k==9)=true:=by simp;omega
 have t20:(k==20)=false:=by simp;omega
 have kqq98:=@Hz _ @nn273;exact qq98):p:=h
theorem nn141(h:p:=by
 have hEs:Bf args (some nm) S=([(tmE (.mk p0 pa0 pn0 pi0 ps0 pl0 pr0 pm0) S).1,(tmE (.mk p1 pa1 pn1 pi1 ps1 pl1 pr1 pm1) ((tmE (.mk p0 pa0 pn0 pi0 ps0 pl0 pr0 pm0) S).2.bind nm)).1],(tmE (.mk p0 pa0 pn0 pi0 ps0 pl0 pr0 pm0) S).2.n,(tmE (.mk p1 pa1 pn1 pi1 ps1 pl1 pr1 pm1) ((tmE (.mk p0 pa0 pn0 pi0 ps0 pl0 pr0 pm0) S).2.bind nm)).2):=by rw[hargs];simp[Bf,Pi]
 have kqq157:=@Hz _ @nn368;exact qq157):p:=h
theorem nn273(h:p:=by
 have hal:args.length=2:=Jv (h:=⟨true,false,false,false,2,false⟩) (by rw[hk0];rfl) hfo;have kqq44:=@Hz _ @nn141;exact qq44):p:=h
theorem nn310(h:p:=by
 have hX:tmE (.mk k a nm n s ls args arms) S=(.mk 9 a (Bf args (some nm) S).2.1 0 [] [] (Bf args (some nm) S).1 [],(Bf args (some nm) S).2.2.cut S.l.length):=by
  have:=Sx k a (.inl hk0) nm n s ls args arms S;rw[if_neg oM] at this;exact this
 have kqq4:=@Hz _ @nn9;exact qq4):p:=h
theorem nn368(h:p:=by
 have hSB3:SB ((tmE (.mk p0 pa0 pn0 pi0 ps0 pl0 pr0 pm0) S).2.bind nm) (szE (.mk p1 pa1 pn1 pi1 ps1 pl1 pr1 pm1)):=SB.step hSB2 (Gr.bind (tmE (.mk p0 pa0 pn0 pi0 ps0 pl0 pr0 pm0) S).2 nm);obtain⟨r,hr⟩:=Gd (tmE (.mk p0 pa0 pn0 pi0 ps0 pl0 pr0 pm0) S).2 nm;have hml:S.l.length≤((tmE (.mk p0 pa0 pn0 pi0 ps0 pl0 pr0 pm0) S).2.bind nm).l.length:=by rw[hr,La',hlA];omega
 have cT:=fun W hW=>Hz (IH.out p0 pa0 pn0 pi0 ps0 pl0 pr0 pm0 P50 P60 P70 q50 q60 q70 w0 W ok P S A c oM hmx0 hwx0 hx0 hW hSB1)
 have cW:=fun W A2 c2 hW=>Hz (Jc N IH.out p1 pa1 pn1 pi1 ps1 pl1 pr1 pm1 P51 P61 P71 q51 q61 q71 w0 W ok P ((tmE (.mk p0 pa0 pn0 pi0 ps0 pl0 pr0 pm0) S).2.bind nm) A2 c2 S.l.length oM hmx1 hwx1 hx1 hW hSB3 hml)
 generalize (tmE (.mk p0 pa0 pn0 pi0 ps0 pl0 pr0 pm0) S).1=X at *
 generalize (tmE (.mk p0 pa0 pn0 pi0 ps0 pl0 pr0 pm0) S).2=S1 at *
 have cB:=fun W A2 c2 (hW:Dg w0 P S1 A2 c2 W)=>Hz (Ju hW nm (by have:=hSB2.2.2;omega) hSB2.1 (by have:=hSB2.2.1;omega))
 generalize S1.bind nm=S2 at *
 exact qq10):p:=h
theorem term_9(N:Nat)(ih:TMC N)(k:Int)(hk0:k=9):Rb (N+1) k:=by
 have kqq116:=@Hz _ @nn310;exact qq116
theorem nn8(h:p:=by
 have t1:(k==1)=false:=by simp;omega
 have t7:(k==7)=false:=by simp;omega
 have t9:(k==9)=false:=by simp;omega
 have t20:(k==20)=true:=by simp;omega
 have kqq98:=@Hz _ @nn274;exact qq98):p:=h
theorem nn142(h:p:=by
 have hEs:Bf args (some [95]) S=([(tmE (.mk p0 pa0 pn0 pi0 ps0 pl0 pr0 pm0) S).1,(tmE (.mk p1 pa1 pn1 pi1 ps1 pl1 pr1 pm1) ((tmE (.mk p0 pa0 pn0 pi0 ps0 pl0 pr0 pm0) S).2.bind [95])).1],(tmE (.mk p0 pa0 pn0 pi0 ps0 pl0 pr0 pm0) S).2.n,(tmE (.mk p1 pa1 pn1 pi1 ps1 pl1 pr1 pm1) ((tmE (.mk p0 pa0 pn0 pi0 ps0 pl0 pr0 pm0) S).2.bind [95])).2):=by rw[hargs];simp[Bf,Pi]
 have kqq157:=@Hz _ @nn367;exact qq157):p:=h
theorem nn274(h:p:=by
 have hal:args.length=2:=Jv (h:=⟨false,false,false,false,2,false⟩) (by rw[hk0];rfl) hfo;have kqq44:=@Hz _ @nn142;exact qq44):p:=h
theorem nn309(h:p:=by
 have hX:tmE (.mk k a nm n s ls args arms) S=(.mk 9 a (Bf args (some [95]) S).2.1 0 [] [] (Bf args (some [95]) S).1 [],(Bf args (some [95]) S).2.2.cut S.l.length):=by
  have:=Sx k a (.inr hk0) nm n s ls args arms S;rw[if_pos hk0] at this;exact this
 have kqq4:=@Hz _ @nn8;exact qq4):p:=h
theorem nn367(h:p:=by
 have hSB3:SB ((tmE (.mk p0 pa0 pn0 pi0 ps0 pl0 pr0 pm0) S).2.bind [95]) (szE (.mk p1 pa1 pn1 pi1 ps1 pl1 pr1 pm1)):=SB.step hSB2 (Gr.bind (tmE (.mk p0 pa0 pn0 pi0 ps0 pl0 pr0 pm0) S).2 [95]);obtain⟨r,hr⟩:=Gd (tmE (.mk p0 pa0 pn0 pi0 ps0 pl0 pr0 pm0) S).2 [95];have hml:S.l.length≤((tmE (.mk p0 pa0 pn0 pi0 ps0 pl0 pr0 pm0) S).2.bind [95]).l.length:=by rw[hr,La',hlA];omega
 have cT:=fun W hW=>Hz (IH.out p0 pa0 pn0 pi0 ps0 pl0 pr0 pm0 P50 P60 P70 q50 q60 q70 w0 W ok P S A c oM hmx0 hwx0 hx0 hW hSB1)
 have cW:=fun W A2 c2 hW=>Hz (Jc N IH.out p1 pa1 pn1 pi1 ps1 pl1 pr1 pm1 P51 P61 P71 q51 q61 q71 w0 W ok P ((tmE (.mk p0 pa0 pn0 pi0 ps0 pl0 pr0 pm0) S).2.bind [95]) A2 c2 S.l.length oM hmx1 hwx1 hx1 hW hSB3 hml)
 have kqq334:=@Hz _ @nn628;exact qq334):p:=h
theorem nn628(h:p:=by
 generalize S1.bind [95]=S2 at *
 exact qq10):p:=h
theorem term_20(N:Nat)(ih:TMC N)(k:Int)(hk0:k=20):Rb (N+1) k:=by
 have kqq116:=@Hz _ @nn309;exact qq116
theorem nn6(h:p:=by
 have kqq115:=@Hz _ @nn298;exact qq115):p:=h
theorem nn81(h:p:=by
 refine(cL x5 T0.st.1).out.mono ?_;rintro e x6 ⟨v,cs4,rfl,hrow,hst⟩;obtain⟨A4,c4,rfl⟩:=Oq hrow.own;have T1:=T0.step hP hst;have kqq65:=@Hz _ @nn177;exact qq65):p:=h
theorem nn177(h:p:=by
 have HROW:Hid (Gp x6 (TOk (w.heap.size+3) A) (.slice A4 ls.length c4) ls cs4):=Hz (hrow.keep Cg (fun b hb hlt=>⟨⟨Nat.le_trans T0.sz hb,fun a e h=>by have:=H.out.own_lt a e;have:=T0.sz;omega⟩,rfl,hlt⟩));have HT:=Hz T1;clear T0 T1 hst cL hrow m0 m1 m2 m3 y0 y1 y2 y3;go_wp2_with fail;have T2:TSt w0 P A w (.cells #[vI k,vI a,vS nm,vI n,vS s,.slice A5 ls.length c5,.slice A6 args.length c6,.slice A7 arms.length c7] 27) #[vI 12,vI a,vI 0,vI 0,vE,.slice A4 ls.length c4,vZ,vZ] S1 A c ((x6.setCell ⟨w.heap.size+1+1,0,none⟩ (vI 12)).setCell ⟨w.heap.size+1+1,5,none⟩ (.slice A4 ls.length c4)):=(HT.out.set hP HLE.out 0 (vI 12)).set hP HLE.out 5 (.slice A4 ls.length c4);have hrow2:Gp ((x6.setCell ⟨w.heap.size+1+1,0,none⟩ (vI 12)).setCell ⟨w.heap.size+1+1,5,none⟩ (.slice A4 ls.length c4)) (TOk (w.heap.size+3) A) (.slice A4 ls.length c4) ls cs4:=(HROW.out.keep Cg (Mn (Nr' _) 0 (vI 12))).keep Cg (Mn (Nr' _) 5 (.slice A4 ls.length c4))
 generalize (x6.setCell ⟨w.heap.size+1+1,0,none⟩ (vI 12)).setCell ⟨w.heap.size+1+1,5,none⟩ (.slice A4 ls.length c4)=x7 at *
 refine(cT x7 A c T2.st.1).out.mono ?_;rintro e x8 ⟨A9,c9,cs,A2,c2,rfl,hR,hst2⟩;rw[HLEN.out] at hR ⊢;have T3:=T2.step hP hst2;have HR2:Hid (J2 x8 (TOk (w.heap.size+3) A2) (.slice A9 args.length c9) XS cs):=Hz (hR.keep D9 (G5 T2.sz (Fr.refl [] _)));have HL2:Hid (Gp x8 (TOk (w.heap.size+3) A2) (.slice A4 ls.length c4) ls cs4):=Hz (hrow2.keep Cg (Iu T2.st.1 oM (Fr.refl [] _) hst2));clear l0 l1 l2 l3 l4 l5 l6 l7 f0 f1 f2 f3 f4 f5 f6 f7 u0 u1 u2 u3 u4 u5 u6 u7 z0 z1 z2 z3 z4 z5 z6 z7 i0 i1 i2 i3 i4 i5 i6 i7 HT nTR nRT;have kqq100:=@Hz _ @nn279;exact qq100):p:=h
theorem nn279(h:p:=by
 have HT3:=Hz T3;clear T2 T3 hst2 cT hR hrow2 HROW;go_wp2_with fail
 have hZ:Fr [w.heap.size+1,w.heap.size+1+1] x8 (((((((((x8.setCell ⟨w.heap.size+1+1,6,none⟩ (.slice A9 args.length c9)).setCell ⟨w.heap.size+1,0,none⟩ (vI 12)).setCell ⟨w.heap.size+1,1,none⟩ (vI a)).setCell ⟨w.heap.size+1,2,none⟩ (vI 0)).setCell ⟨w.heap.size+1,3,none⟩ (vI 0)).setCell ⟨w.heap.size+1,4,none⟩ (vE)).setCell ⟨w.heap.size+1,5,none⟩ (.slice A4 ls.length c4)).setCell ⟨w.heap.size+1,6,none⟩ (.slice A9 args.length c9)).setCell ⟨w.heap.size+1,7,none⟩ (vZ)):=((((((((((Fr.refl [w.heap.size+1,w.heap.size+1+1] x8).setCell (p:=⟨w.heap.size+1+1,6,none⟩) (.inl sM) (.slice A9 args.length c9)).setCell (p:=⟨w.heap.size+1,0,none⟩) (.inl sM) (vI 12)).setCell (p:=⟨w.heap.size+1,1,none⟩) (.inl sM) (vI a)).setCell (p:=⟨w.heap.size+1,2,none⟩) (.inl sM) (vI 0)).setCell (p:=⟨w.heap.size+1,3,none⟩) (.inl sM) (vI 0)).setCell (p:=⟨w.heap.size+1,4,none⟩) (.inl sM) (vE)).setCell (p:=⟨w.heap.size+1,5,none⟩) (.inl sM) (.slice A4 ls.length c4)).setCell (p:=⟨w.heap.size+1,6,none⟩) (.inl sM) (.slice A9 args.length c9)).setCell (p:=⟨w.heap.size+1,7,none⟩) (.inl sM) (vZ))
 have hsz:(((((((((x8.setCell ⟨w.heap.size+1+1,6,none⟩ (.slice A9 args.length c9)).setCell ⟨w.heap.size+1,0,none⟩ (vI 12)).setCell ⟨w.heap.size+1,1,none⟩ (vI a)).setCell ⟨w.heap.size+1,2,none⟩ (vI 0)).setCell ⟨w.heap.size+1,3,none⟩ (vI 0)).setCell ⟨w.heap.size+1,4,none⟩ (vE)).setCell ⟨w.heap.size+1,5,none⟩ (.slice A4 ls.length c4)).setCell ⟨w.heap.size+1,6,none⟩ (.slice A9 args.length c9)).setCell ⟨w.heap.size+1,7,none⟩ (vZ)).heap.size=x8.heap.size:=by simp[World.setCell]
 have hG:=Aq (x:=x8.setCell ⟨w.heap.size+1+1,6,none⟩ (.slice A9 args.length c9)) (((Fr.refl [w.heap.size+1+1] x8).setCell (p:=⟨w.heap.size+1+1,6,none⟩) (.inl sM) (.slice A9 args.length c9)).keep HT3.out.r (by simp only[List.mem_singleton];omega)) (vI 12) (vI a) (vI 0) (vI 0) (vE) (.slice A4 ls.length c4) (.slice A9 args.length c9) (vZ);unfold st8 at hG
 generalize ((((((((x8.setCell ⟨w.heap.size+1+1,6,none⟩ (.slice A9 args.length c9)).setCell ⟨w.heap.size+1,0,none⟩ (vI 12)).setCell ⟨w.heap.size+1,1,none⟩ (vI a)).setCell ⟨w.heap.size+1,2,none⟩ (vI 0)).setCell ⟨w.heap.size+1,3,none⟩ (vI 0)).setCell ⟨w.heap.size+1,4,none⟩ (vE)).setCell ⟨w.heap.size+1,5,none⟩ (.slice A4 ls.length c4)).setCell ⟨w.heap.size+1,6,none⟩ (.slice A9 args.length c9)).setCell ⟨w.heap.size+1,7,none⟩ (vZ)=Z at *
 have hX9:Au (x8) (TOk (w.heap.size+3) _) _ [vI 12,vI a,vI 0,vI 0,vE,.slice A4 ls.length c4,.slice A9 args.length c9,vZ]:=Au.of_rows (c7:=fun _=>[]) HL2.out HR2.out An.nil_;have hfin:=TSt.fin HT3.out hP HLE.out hZ hX9;obtain⟨⟨g0,g1,g2,g3,g4,g5,g6,g7⟩,_⟩:=Ac hG;have hRz:=Aa hG;refine bodyPost_ret (v:=.agg #[vI 12,vI a,vI 0,vI 0,vE,.slice A4 ls.length c4,.slice A9 args.length c9,vZ]) ?_ rfl hfin;exact qq255):p:=h
theorem nn298(h:p:=by
 have t10:(k==10)=false:=by simp;omega
 have t21:(k==21)=false:=by simp;omega
 have t22:(k==22)=false:=by simp;omega
 have t12:(k==12)=true:=by simp;omega
 have t16:(k==16)=false:=by simp;omega
 have t17:(k==17)=false:=by simp;omega
 have kqq239:=@Hz _ @nn463;exact qq239):p:=h
theorem nn307(h:p:=by
 have hX:tmE (.mk k a nm n s ls args arms) S=(.mk 12 a 0 0 [] ls (Bf args none (S.labels ls a)).1 [],(Bf args none (S.labels ls a)).2.2):=by
  subst hk0;rw[Po]
 have kqq4:=@Hz _ @nn6;exact qq4):p:=h
theorem nn463(h:p:=by
 have hsz:=HNS.out;have cL:=fun W (hW:Dg w0 P S A c W)=>Hz (Rq hW ls A5 c5 d5 H5.out E5.out a b3)
 have hSB:SB (S.labels ls a) (Bk args):=SB.step (j:=0) (HB.out.mono oM) (Gr.labels S ls a);have cT:=fun W A2 c2 hW=>Hz (Ke N IH.out args A6 c6 d6 w0 W ok P (S.labels ls a) A2 c2 hsz.1 HMA.out HW6.out H6.out E6.out hW hSB b4)
 have hlen:=Hv args none (S.labels ls a)
 generalize S.labels ls a=S1 at *
 generalize (Bf args none S1).1=XS at *
 generalize (Bf args none S1).2.2=S3 at *
 have HLEN:=Hz hlen;clear hsz hSB hlen;have kqq24:=@Hz _ @nn81;exact qq24):p:=h
theorem term_12(N:Nat)(ih:TMC N)(k:Int)(hk0:k=12):Rb (N+1) k:=by
 have kqq116:=@Hz _ @nn307;exact qq116
theorem nn5(h:p:=by
 have kqq115:=@Hz _ @nn299;exact qq115):p:=h
theorem nn82(h:p:=by
 refine(cT x5 T0.st.1).out.mono ?_;rintro e x6 ⟨A8,c8,cs8,A1,c1,rfl,hR,hst⟩;rw[HLEN.out] at hR ⊢;have T1:=T0.step hP hst;have HR:Hid (J2 x6 (TOk (w.heap.size+3) A1) (.slice A8 args.length c8) XS cs8):=Hz (hR.keep D9 (G5 T0.sz (Fr.refl [] _)));have kqq65:=@Hz _ @nn176;exact qq65):p:=h
theorem nn176(h:p:=by
 have HT:=Hz T1;clear T0 T1 hst cT hR m0 m1 m2 m3 y0 y1 y2 y3;go_wp2_with fail;have T2:TSt w0 P A w (.cells #[vI k,vI a,vS nm,vI n,vS s,.slice A5 ls.length c5,.slice A6 args.length c6,.slice A7 arms.length c7] 27) #[vI 16,vI a,vI 0,vI 0,vE,vZ,.slice A8 args.length c8,vZ] S2 A1 c1 ((x6.setCell ⟨w.heap.size+1+1,0,none⟩ (vI 16)).setCell ⟨w.heap.size+1+1,6,none⟩ (.slice A8 args.length c8)):=(HT.out.set hP HLE.out 0 (vI 16)).set hP HLE.out 6 (.slice A8 args.length c8);have hrow2:J2 ((x6.setCell ⟨w.heap.size+1+1,0,none⟩ (vI 16)).setCell ⟨w.heap.size+1+1,6,none⟩ (.slice A8 args.length c8)) (TOk (w.heap.size+3) A1) (.slice A8 args.length c8) XS cs8:=(HR.out.keep D9 (Mn (Nr' _) 0 (vI 16))).keep D9 (Mn (Nr' _) 6 (.slice A8 args.length c8))
 generalize (x6.setCell ⟨w.heap.size+1+1,0,none⟩ (vI 16)).setCell ⟨w.heap.size+1+1,6,none⟩ (.slice A8 args.length c8)=x7 at *
 refine(cC x7 A1 c1 T2.st.1).out.mono ?_;rintro e x8 ⟨A9,c9,cs9,A2,c2,rfl,hC,hst2⟩;rw[HLEN2.out] at hC ⊢;have T3:=T2.step hP hst2;have HC2:Hid (Qc x8 (TOk (w.heap.size+3) A2) (.slice A9 arms.length c9) YS cs9):=Hz (hC.keep Gt (G5 T2.sz (Fr.refl [] _)));have HR2:Hid (J2 x8 (TOk (w.heap.size+3) A2) (.slice A8 args.length c8) XS cs8):=Hz (hrow2.keep D9 (Iu T2.st.1 oM (Fr.refl [] _) hst2));clear l0 l1 l2 l3 l4 l5 l6 l7 f0 f1 f2 f3 f4 f5 f6 f7 u0 u1 u2 u3 u4 u5 u6 u7 z0 z1 z2 z3 z4 z5 z6 z7 i0 i1 i2 i3 i4 i5 i6 i7 HT nTR nRT;have kqq100:=@Hz _ @nn280;exact qq100):p:=h
theorem nn280(h:p:=by
 have HT3:=Hz T3;clear T2 T3 hst2 cC hC hrow2 HR;go_wp2_with fail
 have hZ:Fr [w.heap.size+1,w.heap.size+1+1] x8 (((((((((x8.setCell ⟨w.heap.size+1+1,7,none⟩ (.slice A9 arms.length c9)).setCell ⟨w.heap.size+1,0,none⟩ (vI 16)).setCell ⟨w.heap.size+1,1,none⟩ (vI a)).setCell ⟨w.heap.size+1,2,none⟩ (vI 0)).setCell ⟨w.heap.size+1,3,none⟩ (vI 0)).setCell ⟨w.heap.size+1,4,none⟩ (vE)).setCell ⟨w.heap.size+1,5,none⟩ (vZ)).setCell ⟨w.heap.size+1,6,none⟩ (.slice A8 args.length c8)).setCell ⟨w.heap.size+1,7,none⟩ (.slice A9 arms.length c9)):=((((((((((Fr.refl [w.heap.size+1,w.heap.size+1+1] x8).setCell (p:=⟨w.heap.size+1+1,7,none⟩) (.inl sM) (.slice A9 arms.length c9)).setCell (p:=⟨w.heap.size+1,0,none⟩) (.inl sM) (vI 16)).setCell (p:=⟨w.heap.size+1,1,none⟩) (.inl sM) (vI a)).setCell (p:=⟨w.heap.size+1,2,none⟩) (.inl sM) (vI 0)).setCell (p:=⟨w.heap.size+1,3,none⟩) (.inl sM) (vI 0)).setCell (p:=⟨w.heap.size+1,4,none⟩) (.inl sM) (vE)).setCell (p:=⟨w.heap.size+1,5,none⟩) (.inl sM) (vZ)).setCell (p:=⟨w.heap.size+1,6,none⟩) (.inl sM) (.slice A8 args.length c8)).setCell (p:=⟨w.heap.size+1,7,none⟩) (.inl sM) (.slice A9 arms.length c9))
 have hsz:(((((((((x8.setCell ⟨w.heap.size+1+1,7,none⟩ (.slice A9 arms.length c9)).setCell ⟨w.heap.size+1,0,none⟩ (vI 16)).setCell ⟨w.heap.size+1,1,none⟩ (vI a)).setCell ⟨w.heap.size+1,2,none⟩ (vI 0)).setCell ⟨w.heap.size+1,3,none⟩ (vI 0)).setCell ⟨w.heap.size+1,4,none⟩ (vE)).setCell ⟨w.heap.size+1,5,none⟩ (vZ)).setCell ⟨w.heap.size+1,6,none⟩ (.slice A8 args.length c8)).setCell ⟨w.heap.size+1,7,none⟩ (.slice A9 arms.length c9)).heap.size=x8.heap.size:=by simp[World.setCell]
 have hG:=Aq (x:=x8.setCell ⟨w.heap.size+1+1,7,none⟩ (.slice A9 arms.length c9)) (((Fr.refl [w.heap.size+1+1] x8).setCell (p:=⟨w.heap.size+1+1,7,none⟩) (.inl sM) (.slice A9 arms.length c9)).keep HT3.out.r (by simp only[List.mem_singleton];omega)) (vI 16) (vI a) (vI 0) (vI 0) (vE) (vZ) (.slice A8 args.length c8) (.slice A9 arms.length c9);unfold st8 at hG
 generalize ((((((((x8.setCell ⟨w.heap.size+1+1,7,none⟩ (.slice A9 arms.length c9)).setCell ⟨w.heap.size+1,0,none⟩ (vI 16)).setCell ⟨w.heap.size+1,1,none⟩ (vI a)).setCell ⟨w.heap.size+1,2,none⟩ (vI 0)).setCell ⟨w.heap.size+1,3,none⟩ (vI 0)).setCell ⟨w.heap.size+1,4,none⟩ (vE)).setCell ⟨w.heap.size+1,5,none⟩ (vZ)).setCell ⟨w.heap.size+1,6,none⟩ (.slice A8 args.length c8)).setCell ⟨w.heap.size+1,7,none⟩ (.slice A9 arms.length c9)=Z at *
 have hX9:Au (x8) (TOk (w.heap.size+3) _) _ [vI 16,vI a,vI 0,vI 0,vE,vZ,.slice A8 args.length c8,.slice A9 arms.length c9]:=Au.of_rows (c5:=fun _=>[]) An.nil_ HR2.out HC2.out;have hfin:=TSt.fin HT3.out hP HLE.out hZ hX9;obtain⟨⟨g0,g1,g2,g3,g4,g5,g6,g7⟩,_⟩:=Ac hG;have hRz:=Aa hG;refine bodyPost_ret (v:=.agg #[vI 16,vI a,vI 0,vI 0,vE,vZ,.slice A8 args.length c8,.slice A9 arms.length c9]) ?_ rfl hfin;exact qq255):p:=h
theorem nn299(h:p:=by
 have kqq326:=@Hz _ @nn609;exact qq326):p:=h
theorem nn306(h:p:=by
 have hX:tmE (.mk k a nm n s ls args arms) S=(.mk 16 a 0 0 [] [] (Bf args none S).1 (Eb arms (Bf args none S).2.2).1,(Eb arms (Bf args none S).2.2).2):=by
  subst hk0;rw[Pp]
 have kqq4:=@Hz _ @nn5;exact qq4):p:=h
theorem nn462(h:p:=by
 have kqq341:=@Hz _ @nn649;exact qq341):p:=h
theorem nn609(h:p:=by
 have t16:(k==16)=true:=by simp;omega
 have t17:(k==17)=false:=by simp;omega
 have kqq239:=@Hz _ @nn462;exact qq239):p:=h
theorem nn649(h:p:=by
 have hSB:SB (Bf args none S).2.2 (B1 arms):=SB.step (HB.out.mono sO) (Hg args none S);have cC:=fun W A2 c2 hW=>Hz (Rk N IH.out arms A7 c7 cp ce w0 W ok P (Bf args none S).2.2 A2 c2 hsz.2.1 HMM.out HW8.out HW9.out H7.out E7.out E8.out hW hSB b5)
 have hlen:=Hv args none S;have hlen2:=Lh arms (Bf args none S).2.2
 generalize (Bf args none S).1=XS at *
 generalize (Bf args none S).2.2=S2 at *
 generalize (Eb arms S2).1=YS at *
 generalize (Eb arms S2).2=S3 at *
 have HLEN:=Hz hlen;have HLEN2:=Hz hlen2;clear hsz hSB hlen hlen2;have kqq24:=@Hz _ @nn82;exact qq24):p:=h
theorem term_16(N:Nat)(ih:TMC N)(k:Int)(hk0:k=16):Rb (N+1) k:=by
 have kqq116:=@Hz _ @nn306;exact qq116
theorem nn1(h:p:=by
 have kqq354:=@Hz _ @nn690;exact qq354):p:=h
theorem nn85(h:p:=by
 refine(cP x5 T0.st.1).out.mono ?_;rintro e x8 ⟨k1,a1,v1,n1,s1,B51,n51,e51,B61,n61,e61,B71,n71,e71,A2,c2,rfl,hX1,hst2⟩;have T3:=T0.step hP hst2;have kqq100:=@Hz _ @nn281;exact qq100):p:=h
theorem nn275(h:p:=by
 have hpk:=else_kind hfo hk0;have kqq239:=@Hz _ @nn464;exact qq239):p:=h
theorem nn281(h:p:=by
 have hX2:=hX1.keep (w':=x8) (ok':=TOk (w.heap.size+3) A2) (G5 T0.sz (Fr.refl [] _));have HT3:=Hz T3;have HX2:=Hz hX2;clear T0 T3 hst2 cP hX1 hX2 m0 m1 m2 m3 y0 y1 y2 y3;go_wp2_with fail
 have hZ:Fr [w.heap.size+1,w.heap.size+1+1] x8 ((((((((x8.setCell ⟨w.heap.size+1,0,none⟩ (vI k1)).setCell ⟨w.heap.size+1,1,none⟩ (vI a1)).setCell ⟨w.heap.size+1,2,none⟩ (vI v1)).setCell ⟨w.heap.size+1,3,none⟩ (vI n1)).setCell ⟨w.heap.size+1,4,none⟩ (.string ⟨s1⟩)).setCell ⟨w.heap.size+1,5,none⟩ (.slice B51 n51 e51)).setCell ⟨w.heap.size+1,6,none⟩ (.slice B61 n61 e61)).setCell ⟨w.heap.size+1,7,none⟩ (.slice B71 n71 e71)):=(((((((((Fr.refl [w.heap.size+1,w.heap.size+1+1] x8).setCell (p:=⟨w.heap.size+1,0,none⟩) (.inl sM) (vI k1)).setCell (p:=⟨w.heap.size+1,1,none⟩) (.inl sM) (vI a1)).setCell (p:=⟨w.heap.size+1,2,none⟩) (.inl sM) (vI v1)).setCell (p:=⟨w.heap.size+1,3,none⟩) (.inl sM) (vI n1)).setCell (p:=⟨w.heap.size+1,4,none⟩) (.inl sM) (.string ⟨s1⟩)).setCell (p:=⟨w.heap.size+1,5,none⟩) (.inl sM) (.slice B51 n51 e51)).setCell (p:=⟨w.heap.size+1,6,none⟩) (.inl sM) (.slice B61 n61 e61)).setCell (p:=⟨w.heap.size+1,7,none⟩) (.inl sM) (.slice B71 n71 e71))
 have hsz:((((((((x8.setCell ⟨w.heap.size+1,0,none⟩ (vI k1)).setCell ⟨w.heap.size+1,1,none⟩ (vI a1)).setCell ⟨w.heap.size+1,2,none⟩ (vI v1)).setCell ⟨w.heap.size+1,3,none⟩ (vI n1)).setCell ⟨w.heap.size+1,4,none⟩ (.string ⟨s1⟩)).setCell ⟨w.heap.size+1,5,none⟩ (.slice B51 n51 e51)).setCell ⟨w.heap.size+1,6,none⟩ (.slice B61 n61 e61)).setCell ⟨w.heap.size+1,7,none⟩ (.slice B71 n71 e71)).heap.size=x8.heap.size:=by simp[World.setCell]
 have hG:=Aq (x:=x8) ((Fr.refl [w.heap.size+1+1] x8).keep HT3.out.r (by simp only[List.mem_singleton];omega)) (vI k1) (vI a1) (vI v1) (vI n1) (.string ⟨s1⟩) (.slice B51 n51 e51) (.slice B61 n61 e61) (.slice B71 n71 e71);unfold st8 at hG
 generalize (((((((x8.setCell ⟨w.heap.size+1,0,none⟩ (vI k1)).setCell ⟨w.heap.size+1,1,none⟩ (vI a1)).setCell ⟨w.heap.size+1,2,none⟩ (vI v1)).setCell ⟨w.heap.size+1,3,none⟩ (vI n1)).setCell ⟨w.heap.size+1,4,none⟩ (.string ⟨s1⟩)).setCell ⟨w.heap.size+1,5,none⟩ (.slice B51 n51 e51)).setCell ⟨w.heap.size+1,6,none⟩ (.slice B61 n61 e61)).setCell ⟨w.heap.size+1,7,none⟩ (.slice B71 n71 e71)=Z at *
 have hX9:Au (x8) (TOk (w.heap.size+3) _) _ [vI k1,vI a1,vI v1,vI n1,.string ⟨s1⟩,.slice B51 n51 e51,.slice B61 n61 e61,.slice B71 n71 e71]:=HX2.out;have hfin:=TSt.fin HT3.out hP HLE.out hZ hX9;obtain⟨⟨g0,g1,g2,g3,g4,g5,g6,g7⟩,_⟩:=Ac hG;have hRz:=Aa hG;refine bodyPost_ret (v:=.agg #[vI k1,vI a1,vI v1,vI n1,.string ⟨s1⟩,.slice B51 n51 e51,.slice B61 n61 e61,.slice B71 n71 e71]) ?_ rfl hfin;exact qq255):p:=h
theorem nn302(h:p:=by
 have hX:tmE (.mk k a nm n s ls args arms) S=(Lx k a n nm s (Bf args none S).1,(Bf args none S).2.2):=by
  exact Li hk0 a nm n s ls args arms S
 have kqq4:=@Hz _ @nn1;exact qq4):p:=h
theorem nn464(h:p:=by
 have hsz:=HNS.out;have cP:=fun W hW=>Hz (plain_step N IH.out k a nm n s ls args arms A5 A6 A7 c5 c6 c7 d6 w0 W ok P S A c hpk hsz.1 HMA.out HW6.out H6.out E6.out hW (HB.out.mono oM) b4 b6)
 generalize Lx k a n nm s (Bf args none S).1=X at *
 generalize (Bf args none S).2.2=S3 at *
 clear hsz hpk;have kqq24:=@Hz _ @nn85;exact qq24):p:=h
theorem nn690(h:p:=by
 have kqq98:=@Hz _ @nn275;exact qq98):p:=h
theorem term_else(N:Nat)(ih:TMC N)(k:Int)(hk0:¬ (k=1∨k=7∨k=9∨k=20∨k=10∨k=12∨k=16∨k=17∨k=21∨k=22)):Rb (N+1) k:=by
 have kqq116:=@Hz _ @nn302;exact qq116
end
end Go.Proofs.YtlafbbnikgcdlaaGreatDoor
