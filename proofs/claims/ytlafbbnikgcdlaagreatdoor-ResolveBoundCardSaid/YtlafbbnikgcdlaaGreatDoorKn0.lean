/- A part of the proof: rows said once. -/
import Derived.Test.YtlafbbnikgcdlaaGreatDoorKb25
namespace Go.Proofs.YtlafbbnikgcdlaaGreatDoor
open Go.RowKit
set_option linter.all false
set_option maxRecDepth 100000
variable{p:Prop}
theorem nnKn1(h:p:=by
 have p2:(i:Int)<(cases.length:Int):=by omega
 obtain⟨x0,x1,x2,x3,x4,x5,x6,x7,x8,x9,x10,x11,x12,x13⟩:=Gv hg hgQ F HCC.out;clear hc hy hyw hpw hzy j1 j2 j3 HN1;go_wp2_with fail
 go_region_held3 (fun w'=>w'.cell? ⟨T,7,none⟩=some (.slice (some ⟨g,og,none⟩) cases.length c7)∧w'.cell? ⟨T+1,0,none⟩=some (.pointer (some ⟨Q,0,none⟩))∧(w'.cell? ⟨g,og+i * 14,none⟩=some (vI k3)∧w'.cell? ⟨g,og+i * 14+1,none⟩=some (vI v3)∧w'.cell? ⟨g,og+i * 14+2,none⟩=some (vI n3)∧w'.cell? ⟨g,og+i * 14+3,none⟩=some (vS s3)∧w'.cell? ⟨g,og+i * 14+4,none⟩=some (.slice A43 ls3.length cc43)∧w'.cell? ⟨g,og+i * 14+5,none⟩=some (.slice A53 args3.length cc53)∧w'.cell? ⟨g,og+i * 14+6,none⟩=some (vI k2)∧w'.cell? ⟨g,og+i * 14+7,none⟩=some (vI a2)∧w'.cell? ⟨g,og+i * 14+8,none⟩=some (vI v2)∧w'.cell? ⟨g,og+i * 14+9,none⟩=some (vI n2)∧w'.cell? ⟨g,og+i * 14+10,none⟩=some (vS s2)∧w'.cell? ⟨g,og+i * 14+11,none⟩=some (.slice A52 ls2.length cc5)∧w'.cell? ⟨g,og+i * 14+12,none⟩=some (.slice A62 args2.length cc6)∧w'.cell? ⟨g,og+i * 14+13,none⟩=some (.slice A72 cases2.length cc7))) (first|go_keep|exact⟨l7,lp,⟨x0,x1,x2,x3,x4,x5,x6,x7,x8,x9,x10,x11,x12,x13⟩⟩) ((first|((with_reducible refine(cP _ (F0.out.trans fr.drew) (Ga IA.out)).out.mono ?_);rintro e w3 ⟨rfl,I3,f3⟩;have l7:=Ab ((fr.drew.trans f3).keep q0 (by simpa using nQ)) 7;have lp:=Ab ((fr.drew.trans f3).keep qp (by simpa using nQ1)) 0;obtain⟨x0,x1,x2,x3,x4,x5,x6,x7,x8,x9,x10,x11,x12,x13⟩:=Gv hg hgQ (F0.out.trans (fr.drew.trans f3)) HCC.out)| ((with_reducible refine(cX _ (F0.out.trans (fr.drew.trans f3)) I3).out.mono ?_);rintro e w4 ⟨rfl,I4,f4⟩;have l7:=Ab (((fr.drew.trans f3).trans f4).keep q0 (by simpa using nQ)) 7;have lp:=Ab (((fr.drew.trans f3).trans f4).keep qp (by simpa using nQ1)) 0;obtain⟨x0,x1,x2,x3,x4,x5,x6,x7,x8,x9,x10,x11,x12,x13⟩:=Gv hg hgQ (F0.out.trans ((fr.drew.trans f3).trans f4)) HCC.out)))
 go_wp2_with fail
 go_roundw
 case rel=>exact⟨i+1,mb,rfl,sM,oM,oM,HJ,Hz I4,(fr.drew.trans f3).trans f4⟩
 case measure=>simp[intOf];omega):p:=h
theorem nnKn2(h:p:=by
 have p2:(i:Int)<(args.length:Int):=by omega
 have ht:(((i:Int)==1)=true∧((k==9)=true∨((k==9)=false∧(k==17)=true))∧v=mi∧ma=mi+1)∨((((i:Int)==1)=false∨(((i:Int)==1)=true∧(k==9)=false∧(k==17)=false))∧ma=mi):=by
  have ei:((i:Int)==1)=(i==1):=by
   by_cases e:i=1
   ·subst e;rfl
   ·rw[bN.2 e];exact bN.2 oM
  rw[ei];unfold Gs at j1
  cases e1:(i==1)
  ·rw[e1,Bool.and_false] at j1;exact .inr ⟨.inl rfl,(Option.some.inj j1).symm⟩
  ·rw[e1,Bool.and_true] at j1
   cases e9:(k==9)
   ·cases e17:(k==17)
    ·rw[e9,e17] at j1;exact .inr ⟨.inr ⟨rfl,rfl,rfl⟩,(Option.some.inj j1).symm⟩
    ·rw[e9,e17,if_pos rF] at j1;by_cases e:v=mi
     ·rw[if_pos e] at j1;exact .inl ⟨rfl,.inr ⟨rfl,rfl⟩,e,(Option.some.inj j1).symm⟩
     ·rw[if_neg e] at j1;cases j1
   ·rw[e9,Bool.true_or,if_pos rfl] at j1;by_cases e:v=mi
    ·rw[if_pos e] at j1;exact .inl ⟨rfl,.inl rfl,e,(Option.some.inj j1).symm⟩
    ·rw[if_neg e] at j1;cases j1
 clear hc hy hyw hzy r5 r6 r7 j1 j2 j3 HN1
 rcases ht with⟨i1,hk,rfl,rfl⟩| ⟨hk,rfl⟩
 ·rcases hk with k9|⟨k9,k17⟩
  all_goals
   go_wp2_with fail;refine(Lc v (T+1) Q wr lp nQ1 IA.out hmi oM).mono ?_;rintro e z ⟨rfl,I,f⟩;have fz:=Hz (fr.trans f);have Iz:=Hz I;clear f I l0 l1 l2 l3 l4 l5 l6 l7 lp;exact qqKn4
 ·rcases hk with i1|⟨i1,k9,k17⟩
  all_goals
   have fz:=Hz fr;have Iz:=IA;exact qqKn4):p:=h
theorem nnKn3(h:p:=by
 by_cases hlt:i<args.length
 ·obtain⟨y,hy⟩:∃ y,args[i]?=some y:=⟨args[i],Lg' hlt⟩
  obtain⟨g,og,rfl,_,hg,hokg,_,hc⟩:=H6.out.row hlt;obtain⟨ma,mb,j1,j2,j3⟩:=Vk hy HN1.out;have hyy:=E6.out i y hy;have hzy:=Qw hy;have hgQ:g≠Q:=fun e=>HOK.out (e ▸ hokg)
  generalize d6 i=di at *
  have hyw:=fun W (hW:Fr [Q] w W)=>hyy.keep (w':=W) (ok':=ok) (Sh.of_fr hW (fun b hb _=>⟨hb,fun x=>HOK.out (by simp at x;exact x ▸ hb)⟩))
  cases hyy with
  | @mk k2 a2 v2 n2 s2 ls2 args2 cases2 v5 v6 v7 _ _ _ _ r5 _ r6 _ r7 _ _ =>
  obtain⟨A52,cc5,rfl⟩:=r5.form;obtain⟨A62,cc6,rfl⟩:=r6.form;obtain⟨A72,cc7,rfl⟩:=r7.form;have le1:=Kj j1;have le2:=Hf j2;have le3:=Qs j3;have HCC:=Hz hc;have kqqKn6:=@Hz _ @nnKn2;exact qqKn6
 ·have hmi2:mi=m2:=by
   have:=HN1.out;rw[List.drop_eq_nil_of_le oM] at this;exact Rz this
  subst hmi2;have p2:¬ (i:Int)<(args.length:Int):=by omega
  have HI2:=IA;have HF2:=Hz fr;clear HN1 IA;go_wp2_with fail;clear l0 l1 l2 l3 l4 l5 l6 l7 lp q2 qp2 F p1 p2 hi fr hlt
  go_loopw [6,61] (fun bv iv wq=>∃ (i:Nat) (mi:Int),bv = .bool true∧iv=vI i∧i≤cases.length∧0≤mi∧Hid (Fl (cases.drop i) mi=some m')∧Hid (Fo wq Q mi)∧Fr [Q] x wq) (fun bv iv wq=>cases.length-(intOf iv).toNat)
  case atStart=>exact⟨0,mi,rfl,rfl,oM,oM,HC,HI2,HF2.out⟩
  case round =>
   clear HF2 HI2 hmi;obtain⟨i,mj,rfl,rfl,hi,hmi,HN1,IA,fr⟩:=hrel;have kqqKn7:=@Hz _ @nnKn4;exact qqKn7):p:=h
theorem nnKn4(h:p:=by
 by_cases hlt:i<cases.length
 ·obtain⟨p,y,hy⟩:∃ p y,cases[i]?=some (p,y):=⟨(cases[i]).1,(cases[i]).2,Lg' hlt⟩
  obtain⟨g,og,rfl,_,hg,hokg,_,hc⟩:=H7.out.row hlt;obtain⟨ma,mb,j1,j2,j3⟩:=R3 hy HN1.out;have hpp:=E7.out i p y hy;have hyy:=E8.out i p y hy;have hzy:=V6 hy;have hgQ:g≠Q:=fun e=>HOK.out (e ▸ hokg)
  try dsimp only at hc
  generalize dp i=dpi at *
  generalize de i=di at *
  have hyw:=fun W (hW:Fr [Q] w W)=>hyy.keep (w':=W) (ok':=ok) (Sh.of_fr hW (fun b hb _=>⟨hb,fun x=>HOK.out (by simp at x;exact x ▸ hb)⟩))
  have hpw:=fun W (hW:Fr [Q] w W)=>hpp.keep (w':=W) (ok':=ok) (Sh.of_fr hW (fun b hb _=>⟨hb,fun x=>HOK.out (by simp at x;exact x ▸ hb)⟩))
  cases hyy with
  | @mk k2 a2 v2 n2 s2 ls2 args2 cases2 v5 v6 v7 _ _ _ _ r5 _ r6 _ r7 _ _ =>
  obtain⟨A52,cc5,rfl⟩:=r5.form;obtain⟨A62,cc6,rfl⟩:=r6.form;obtain⟨A72,cc7,rfl⟩:=r7.form;clear r5 r6 r7
  cases hpp with
  | @mk k3 v3 n3 s3 ls3 args3 v4 v5 _ _ r4 _ r5 _ =>
  obtain⟨A43,cc43,rfl⟩:=r4.form;obtain⟨A53,cc53,rfl⟩:=r5.form;clear r4 r5;have le1:=Lt j1;have le2:=Hf j2;have le3:=Ld j3;have HCC:=Hz hc;have cP:=fun W (hW:Fr [Q] w W) (hI:Fo W Q mj)=>Hz (Op _ k3 v3 n3 s3 ls3 args3 A43 A53 cc43 cc53 mj ma W ok Q (Nat.lt_succ_self _) (by have:=HZ.out;omega) j1 (hpw W hW) HOK.out hI hmi oM)
  have kqqKn6:=@Hz _ @nnKn1;exact qqKn6
 ·have hmi3:mj=m':=by
   have:=HN1.out;rw[List.drop_eq_nil_of_le oM,Fl] at this;exact Option.some.inj this
  subst hmi3;have p2:¬ (i:Int)<(cases.length:Int):=by omega
  have y0:=Ab IA.out 0;clear HN1
  rcases hf2 with hk1|⟨rfl,hv⟩
  all_goals
   go_wp2_with fail;go_quiet (fail);go_wp2_with fail;go_ret;exact⟨rfl,IA.out,F.drewN _⟩):p:=h
theorem qqKn1(h:p:=by
 go_loopw [6,25] (fun bv iv wr=>∃ (i:Nat) (mi:Int),bv = .bool true∧iv=vI i∧i≤args.length∧0≤mi∧Hid (Qj i (args.drop i) (k==9||k==17) v mi=some m2)∧Hid (Fo wr Q mi)∧Fr [Q] x wr) (fun bv iv wr=>args.length-(intOf iv).toNat)
 case atStart=>exact⟨0,_,rfl,rfl,oM,oM,HA,HI,HF.out⟩
 case round =>
  clear HI HF;obtain⟨i,mi,rfl,rfl,hi,hmi,HN1,IA,fr⟩:=hrel;have kqqKn7:=@Hz _ @nnKn3;exact qqKn7):p:=h
theorem qqKn2(h:p:=by
 obtain⟨i,mi,rfl,rfl,hi,hmi,HI,IA,fr⟩:=hrel;have F:=F0.out.trans fr;have q2:=fr.keep q0 (by simpa using nQ);obtain⟨⟨l0,l1,l2,l3,l4,l5⟩,_⟩:=Bl q2;have p1:(0:Int)≤(i:Int):=by omega
 by_cases hlt:i<args.length
 ·obtain⟨y,hy⟩:∃ y,args[i]?=some y:=⟨args[i],Lg' hlt⟩
  obtain⟨g,og,rfl,_,hg,hokg,_,hc⟩:=H5.out.row hlt;obtain⟨mj,hj1,hj2⟩:=Xv hy HI.out;have hyy:=E5.out i y hy;have hzy:=zPs_get hy;have hgQ:g≠Q:=fun e=>HOK.out (e ▸ hokg)
  generalize d5 i=di at *
  have hyw:=hyy.keep (w':=wr) (ok':=ok) (Sh.of_fr F (fun b hb _=>⟨hb,fun x=>HOK.out (by simp at x;exact x ▸ hb)⟩));have hcw:∀ (j:Nat) (v:Value),di[j]?=some v→wr.cell? ⟨g,og+i * 6+j,none⟩=some v:=fun j v hv=>(F.cell (p:=⟨g,og+i * 6+j,none⟩) hg (by simpa using hgQ)).trans (hc j v hv)
  cases hyy with
  | @mk k2 v2 n2 s2 ls2 args2 v4 v5 _ _ r4 _ r5 _ =>
  obtain⟨A42,cc4,rfl⟩:=r4.form;obtain⟨A52,cc5,rfl⟩:=r5.form;have hle3:=Lt hj1;have hle4:=Mh hj2;have cX:=Hz (IH.out k2 v2 n2 s2 ls2 args2 A42 A52 cc4 cc5 mi mj wr ok Q (by have:=HN.out;omega) (by have:=HZ.out;omega) hj1 hyw HOK.out IA.out hmi oM);have x0:=hcw 0 _ rfl;have x1:=hcw 1 _ rfl;have x2:=hcw 2 _ rfl;have x3:=hcw 3 _ rfl;have x4:=hcw 4 _ rfl;have x5:=hcw 5 _ rfl;simp only[Nat.add_zero] at x0;have HJ:=Hz hj2;clear hc hcw hy HI hyw hzy r4 r5 hj1 hj2 hle4;have p2:(i:Int)<(args.length:Int):=by omega
  go_wp2_with fail;refine cX.out.mono ?_;rintro e w6 ⟨rfl,I6,f6⟩;go_wp2_with fail
  go_roundw
  case rel=>exact⟨i+1,mj,rfl,sM,oM,oM,HJ,Hz I6,fr.trans f6⟩
  case measure=>simp[intOf];omega
 ·have hm:mi=m':=by
   have:=HI.out;rw[List.drop_eq_nil_of_le oM,Jp] at this;exact Option.some.inj this
  subst hm;have p2:¬ (i:Int)<(args.length:Int):=by omega
  clear HI;go_wp2_with fail;go_ret;exact⟨rfl,IA.out,F⟩):p:=h
theorem qqKn3(h:p:=by
 rw[List.drop_eq_getElem_cons hlt];rw[(List.getElem?_eq_some_iff.1 hy).2]):p:=h
theorem qqKn4(h:p:=by
 have q3:=fz.out.keep q0 (by simpa using nQ);have qp3:=fz.out.keep qp (by simpa using nQ1);have m6:=Ab q3 6;have mp:=Ab qp3 0;obtain⟨x0,x1,x2,x3,x4,x5,x6,x7⟩:=Je hg hgQ (F0.out.trans fz.out) HCC.out;go_wp2_with fail
 go_region_held3 (fun w'=>w'.cell? ⟨T,6,none⟩=some (.slice (some ⟨g,og,none⟩) args.length c6)∧w'.cell? ⟨T+1,0,none⟩=some (.pointer (some ⟨Q,0,none⟩))∧(w'.cell? ⟨g,og+i * 8,none⟩=some (vI k2)∧w'.cell? ⟨g,og+i * 8+1,none⟩=some (vI a2)∧w'.cell? ⟨g,og+i * 8+2,none⟩=some (vI v2)∧w'.cell? ⟨g,og+i * 8+3,none⟩=some (vI n2)∧w'.cell? ⟨g,og+i * 8+4,none⟩=some (vS s2)∧w'.cell? ⟨g,og+i * 8+5,none⟩=some (.slice A52 ls2.length cc5)∧w'.cell? ⟨g,og+i * 8+6,none⟩=some (.slice A62 args2.length cc6)∧w'.cell? ⟨g,og+i * 8+7,none⟩=some (.slice A72 cases2.length cc7))) (first|go_keep|exact⟨m6,mp,⟨x0,x1,x2,x3,x4,x5,x6,x7⟩⟩) (((with_reducible refine(cX _ (F0.out.trans fz.out.drew) (Ga Iz.out)).out.mono ?_);rintro e w4 ⟨rfl,I4,f4⟩;have m6:=Ab ((fz.out.drew.trans f4).keep q0 (by simpa using nQ)) 6;have mp:=Ab ((fz.out.drew.trans f4).keep qp (by simpa using nQ1)) 0;obtain⟨x0,x1,x2,x3,x4,x5,x6,x7⟩:=Je hg hgQ (F0.out.trans (fz.out.drew.trans f4)) HCC.out))
 go_wp2_with fail
 go_roundw
 case rel=>exact⟨i+1,mb,rfl,sM,oM,oM,HJ,Hz I4,fz.out.drew.trans f4⟩
 case measure=>simp[intOf];omega):p:=h
theorem qqKn5(h:p:=by
 go_enter func12,ntmps12;go_wp2_with fail;refine(Lc v (T+1) Q x lp nQ1 q1 h0 oM).mono ?_;rintro e y ⟨rfl,I,F⟩;have HI:=Hz I;have HF:=Hz F;obtain⟨⟨u0,u1,u2,u3,u4,u5,u6,u7⟩,_⟩:=Ac (F.keep q0 (by simpa using nQ));clear I F;go_wp2_with fail;clear u0 u1 u2 u3 u4 u5 u6 u7;exact qqKn1):p:=h
theorem qqKn6(h:p:=by
 have cX:=fun W (hW:Fr [Q] w W) (hI:Fo W Q ma)=>Hz (IH.out k2 a2 v2 n2 s2 ls2 args2 cases2 A52 A62 A72 cc5 cc6 cc7 ma mb W ok Q (by have:=HN.out;omega) (by have:=HZ.out;omega) j2 (hyw W hW) HOK.out hI oM oM)
 have HJ:=Hz j3;exact kqqKn6.out):p:=h
theorem qqKn7(h:p:=by
 have F:=F0.out.trans fr;have q2:=fr.keep q0 (by simpa using nQ);have qp2:=fr.keep qp (by simpa using nQ1);obtain⟨⟨l0,l1,l2,l3,l4,l5,l6,l7⟩,_⟩:=Ac q2;have lp:=Ab qp2 0;have p1:(0:Int)≤(i:Int):=by omega
 exact kqqKn7.out):p:=h
end Go.Proofs.YtlafbbnikgcdlaaGreatDoor
