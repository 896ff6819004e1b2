/- What binds more is read first; sums and products from the left, the others from the right: proved for every input. -/
import Derived.Test.YtpjkfeehgookkaaGreatDoorGn19
import Derived.Test.YtpjkfeehgookkaaGreatDoorGn20
namespace Go.Proofs.YtpjkfeehgookkaaGreatDoor
open Go.RowKit
open _root_.Go.Proofs.Tryz
set_option linter.all false
set_option maxHeartbeats 16000000
set_option maxRecDepth 100000
open Nat renaming lt_of_lt_of_le→Nl'
section
attribute [local go_sem ↓] Go.wp_at_zero Go.wp_at_succ
theorem O8:∀ (i:Nat),i<11→(sgs.getD i []).length≤2:=by decide
theorem Sq:∀ (i:Nat),i<11→(#[.string ⟨#[59]⟩,.string ⟨#[58,61]⟩,.string ⟨#[124,124]⟩,.string ⟨#[38,38]⟩,.string ⟨#[61]⟩,.string ⟨#[60]⟩,.string ⟨#[43]⟩,.string ⟨#[45]⟩,.string ⟨#[42]⟩,.string ⟨#[47]⟩,.string ⟨#[37]⟩]:Array Value)[i]?=some (.string ⟨(sgs.getD i []).toArray⟩):=by
 intro i hi
 match i,hi with
 | 0,_=>rfl
 | 1,_=>rfl
 | 2,_=>rfl
 | 3,_=>rfl
 | 4,_=>rfl
 | 5,_=>rfl
 | 6,_=>rfl
 | 7,_=>rfl
 | 8,_=>rfl
 | 9,_=>rfl
 | 10,_=>rfl
 | _+11,h=>omega
theorem Sc:∀ (i:Nat),i<11→(#[vI 0,vI 1,vI 2,vI 3,vI 4,vI 4,vI 5,vI 5,vI 6,vI 6,vI 6]:Array Value)[i]?=some (vI ((lvs.getD i 0:Nat):Int)):=by
 intro i hi
 match i,hi with
 | 0,_=>rfl
 | 1,_=>rfl
 | 2,_=>rfl
 | 3,_=>rfl
 | 4,_=>rfl
 | 5,_=>rfl
 | 6,_=>rfl
 | 7,_=>rfl
 | 8,_=>rfl
 | 9,_=>rfl
 | 10,_=>rfl
 | _+11,h=>omega
theorem Iu(a b c:ByteArray)(ha:a.size≤140737488355328)(hb:b.size≤140737488355328)(hc:c.size≤140737488355328)(x y:Int)(hx0:0≤x)(hx1:x≤255)(hy0:0≤y)(hy1:y≤255)(w:World)(hE:E2 w):
  Calls prog 9 #[.string a,.string b,.string c,.int .u8 x,.int .u8 y] w fun e w'=>e = .returned (.bool true)∧Fr [] w w':=by
 have HE:=Hz hE;have cA:=fun w hE=>Hz (Nn w hE)
 have c1:=fun w hE=>Hz (Dt a (by omega) w hE)
 have c2:=fun w hE=>Hz (Dt b (by omega) w hE)
 have c3:=fun w hE=>Hz (Dt c (by omega) w hE)
 clear hE;go_enter func9,ntmps9;go_wp2_with fail;refine(cA _ HE.out).out.mono ?_;rintro e w1 ⟨rfl,F⟩;go_wp2_with fail;refine(c1 _ (HE.out.fr F)).out.mono ?_;rintro e x1 ⟨k1,a1,nm1,n1,s1,ls1,args1,arms1,A51,n51,c51,A61,n61,c61,A71,n71,c71,er1,at1,rfl,hx1,hpr1,fx1⟩;have HPR1:=Hz hpr1;clear hpr1;replace F:=F.trans fx1;clear fx1;go_wp2_with fail;replace F:=F.alloc (.cells #[vI k1,vI a1,vS nm1,vI n1,vS s1,.slice A51 n51 c51,.slice A61 n61 c61,.slice A71 n71 c71] 27);clear hx1
 generalize x1.alloc (.cells #[vI k1,vI a1,vS nm1,vI n1,vS s1,.slice A51 n51 c51,.slice A61 n61 c61,.slice A71 n71 c71] 27)=y1 at *
 refine(c2 _ (HE.out.fr F)).out.mono ?_;rintro e x2 ⟨k2,a2,nm2,n2,s2,ls2,args2,arms2,A52,n52,c52,A62,n62,c62,A72,n72,c72,er2,at2,rfl,hx2,hpr2,fx2⟩;have HPR2:=Hz hpr2;clear hpr2;replace F:=F.trans fx2;clear fx2;go_wp2_with fail;replace F:=F.alloc (.cells #[vI k2,vI a2,vS nm2,vI n2,vS s2,.slice A52 n52 c52,.slice A62 n62 c62,.slice A72 n72 c72] 27);clear hx2
 generalize x2.alloc (.cells #[vI k2,vI a2,vS nm2,vI n2,vS s2,.slice A52 n52 c52,.slice A62 n62 c62,.slice A72 n72 c72] 27)=y2 at *
 refine(c3 _ (HE.out.fr F)).out.mono ?_;rintro e x3 ⟨k3,a3,nm3,n3,s3,ls3,args3,arms3,A53,n53,c53,A63,n63,c63,A73,n73,c73,er3,at3,rfl,hx3,hpr3,fx3⟩;have HPR3:=Hz hpr3;clear hpr3;replace F:=F.trans fx3;clear fx3;by_cases he1:er1=0
 ·by_cases he2:er2=0
  ·by_cases he3:er3=0
   ·subst he1 he2 he3;go_wp2_with fail
    obtain⟨i,hi,hil⟩:∃ i:Nat,x % 11=(i:Int)∧i<11:=⟨(x % 11).toNat,by omega,by omega⟩
    obtain⟨k,hk,hkl⟩:∃ k:Nat,y % 11=(k:Int)∧k<11:=⟨(y % 11).toNat,by omega,by omega⟩
    rw[hi,hk];clear hi hk hx0 hx1 hy0 hy1;have QS:=Ad (Ab (x3.alloc (.cells #[vI k3,vI a3,vS nm3,vI n3,vS s3,.slice A53 n53 c53,.slice A63 n63 c63,.slice A73 n73 c73] 27)) (.cells #[.string ⟨#[59]⟩,.string ⟨#[58,61]⟩,.string ⟨#[124,124]⟩,.string ⟨#[38,38]⟩,.string ⟨#[61]⟩,.string ⟨#[60]⟩,.string ⟨#[43]⟩,.string ⟨#[45]⟩,.string ⟨#[42]⟩,.string ⟨#[47]⟩,.string ⟨#[37]⟩] 9)) (.cells #[vI 0,vI 1,vI 2,vI 3,vI 4,vI 4,vI 5,vI 5,vI 6,vI 6,vI 6] 3);have QL:=Ab ((x3.alloc (.cells #[vI k3,vI a3,vS nm3,vI n3,vS s3,.slice A53 n53 c53,.slice A63 n63 c63,.slice A73 n73 c73] 27)).alloc (.cells #[.string ⟨#[59]⟩,.string ⟨#[58,61]⟩,.string ⟨#[124,124]⟩,.string ⟨#[38,38]⟩,.string ⟨#[61]⟩,.string ⟨#[60]⟩,.string ⟨#[43]⟩,.string ⟨#[45]⟩,.string ⟨#[42]⟩,.string ⟨#[47]⟩,.string ⟨#[37]⟩] 9)) (.cells #[vI 0,vI 1,vI 2,vI 3,vI 4,vI 4,vI 5,vI 5,vI 6,vI 6,vI 6] 3);rw[World.size_alloc] at QS QL;rw[World.size_alloc] at QL;replace F:Fr [] w (((x3.alloc (.cells #[vI k3,vI a3,vS nm3,vI n3,vS s3,.slice A53 n53 c53,.slice A63 n63 c63,.slice A73 n73 c73] 27)).alloc (.cells #[.string ⟨#[59]⟩,.string ⟨#[58,61]⟩,.string ⟨#[124,124]⟩,.string ⟨#[38,38]⟩,.string ⟨#[61]⟩,.string ⟨#[60]⟩,.string ⟨#[43]⟩,.string ⟨#[45]⟩,.string ⟨#[42]⟩,.string ⟨#[47]⟩,.string ⟨#[37]⟩] 9)).alloc (.cells #[vI 0,vI 1,vI 2,vI 3,vI 4,vI 4,vI 5,vI 5,vI 6,vI 6,vI 6] 3)):=((F.alloc _).alloc _).alloc _
    generalize ((x3.alloc (.cells #[vI k3,vI a3,vS nm3,vI n3,vS s3,.slice A53 n53 c53,.slice A63 n63 c63,.slice A73 n73 c73] 27)).alloc (.cells #[.string ⟨#[59]⟩,.string ⟨#[58,61]⟩,.string ⟨#[124,124]⟩,.string ⟨#[38,38]⟩,.string ⟨#[61]⟩,.string ⟨#[60]⟩,.string ⟨#[43]⟩,.string ⟨#[45]⟩,.string ⟨#[42]⟩,.string ⟨#[47]⟩,.string ⟨#[37]⟩] 9)).alloc (.cells #[vI 0,vI 1,vI 2,vI 3,vI 4,vI 4,vI 5,vI 5,vI 6,vI 6,vI 6] 3)=Y at *
    have e1:=(Af QS i).trans (Sq i hil);have e2:=(Af QS k).trans (Sq k hkl);have m1:=(Af QL i).trans (Sc i hil);have m2:=(Af QL k).trans (Sc k hkl);have G1:=Hz (Sr i hil);have G2:=Hz (Sr k hkl);have hgs:=Aa QS;have hgl:=Aa QL;have H1:=Hz (O8 i hil);have H2:=Hz (O8 k hkl)
    generalize sgs.getD i []=t1 at *
    generalize sgs.getD k []=t2 at *
    generalize lvs.getD i 0=L1 at *
    generalize lvs.getD k 0=L2 at *
    generalize x3.heap.size+1=gS at *
    have i0:(0:Int)≤(i:Int):=by omega
    have i1:(i:Int)<11:=by omega
    have k0:(0:Int)≤(k:Int):=by omega
    have k1':(k:Int)<11:=by omega
    clear QS QL hx3;have zA:(⟨#[40]⟩++a++⟨#[41]⟩:ByteArray).size=a.size+2:=by rw[← Ar];simp[ByteArray.data_append]
    have zB:(⟨#[40]⟩++b++⟨#[41]⟩:ByteArray).size=b.size+2:=by rw[← Ar];simp[ByteArray.data_append]
    have zC:(⟨#[40]⟩++c++⟨#[41]⟩:ByteArray).size=c.size+2:=by rw[← Ar];simp[ByteArray.data_append]
    have lA:(⟨#[40]⟩++a++⟨#[41]⟩:ByteArray).data.toList=40::(a.data.toList++[41]):=by simp[ByteArray.data_append]
    have lB:(⟨#[40]⟩++b++⟨#[41]⟩:ByteArray).data.toList=40::(b.data.toList++[41]):=by simp[ByteArray.data_append]
    have lC:(⟨#[40]⟩++c++⟨#[41]⟩:ByteArray).data.toList=40::(c.data.toList++[41]):=by simp[ByteArray.data_append]
    generalize (⟨#[40]⟩++a++⟨#[41]⟩:ByteArray)=A at *
    generalize (⟨#[40]⟩++b++⟨#[41]⟩:ByteArray)=B at *
    generalize (⟨#[40]⟩++c++⟨#[41]⟩:ByteArray)=C at *
    have zt1:t1.length≤2:=H1.out;have zt2:t2.length≤2:=H2.out;have bA:A.size≤140737488355330:=by omega
    have bB:B.size≤140737488355330:=by omega
    have bC:C.size≤140737488355330:=by omega
    clear zA zB zC;have d0:¬ 9223372036854775807<A.size+1:=by omega
    have d1:¬ 9223372036854775807<A.size+1+t1.length:=by omega
    have d2:¬ 9223372036854775807<A.size+1+t1.length+1:=by omega
    have d3:¬ 9223372036854775807<A.size+1+t1.length+1+B.size:=by omega
    have d4:¬ 9223372036854775807<A.size+1+t1.length+1+B.size+1:=by omega
    have d5:¬ 9223372036854775807<A.size+1+t1.length+1+B.size+1+t2.length:=by omega
    have d6:¬ 9223372036854775807<A.size+1+t1.length+1+B.size+1+t2.length+1:=by omega
    have d7:¬ 9223372036854775807<A.size+1+t1.length+1+B.size+1+t2.length+1+C.size:=by omega
    have d8:¬ 9223372036854775807<1+A.size:=by omega
    have d9:¬ 9223372036854775807<1+A.size+1:=by omega
    have d10:¬ 9223372036854775807<1+A.size+1+t1.length:=by omega
    have d11:¬ 9223372036854775807<1+A.size+1+t1.length+1:=by omega
    have d12:¬ 9223372036854775807<1+A.size+1+t1.length+1+B.size:=by omega
    have d13:¬ 9223372036854775807<1+A.size+1+t1.length+1+B.size+2:=by omega
    have d14:¬ 9223372036854775807<1+A.size+1+t1.length+1+B.size+2+t2.length:=by omega
    have d15:¬ 9223372036854775807<1+A.size+1+t1.length+1+B.size+2+t2.length+1:=by omega
    have d16:¬ 9223372036854775807<1+A.size+1+t1.length+1+B.size+2+t2.length+1+C.size:=by omega
    have d17:¬ 9223372036854775807<A.size+1+t1.length+2:=by omega
    have d18:¬ 9223372036854775807<A.size+1+t1.length+2+B.size:=by omega
    have d19:¬ 9223372036854775807<A.size+1+t1.length+2+B.size+1:=by omega
    have d20:¬ 9223372036854775807<A.size+1+t1.length+2+B.size+1+t2.length:=by omega
    have d21:¬ 9223372036854775807<A.size+1+t1.length+2+B.size+1+t2.length+1:=by omega
    have d22:¬ 9223372036854775807<A.size+1+t1.length+2+B.size+1+t2.length+1+C.size:=by omega
    have d23:¬ 9223372036854775807<A.size+1+t1.length+2+B.size+1+t2.length+1+C.size+1:=by omega
    go_quiet (fail);replace F:=F.drewN nq;replace e1:(Y.drewN nq).cell? ⟨gS,i,none⟩=some (vS t1):=e1;replace e2:(Y.drewN nq).cell? ⟨gS,k,none⟩=some (vS t2):=e2;replace m1:(Y.drewN nq).cell? ⟨gS+1,i,none⟩=some (vI (L1:Int)):=m1;replace m2:(Y.drewN nq).cell? ⟨gS+1,k,none⟩=some (vI (L2:Int)):=m2;replace hgs:gS<(Y.drewN nq).heap.size:=hgs;replace hgl:gS+1<(Y.drewN nq).heap.size:=hgl
    generalize Y.drewN nq=Y2 at *
    go_wp2_with fail;go_quiet (fail);replace F:=F.drewN nq;replace e1:(Y2.drewN nq).cell? ⟨gS,i,none⟩=some (vS t1):=e1;replace e2:(Y2.drewN nq).cell? ⟨gS,k,none⟩=some (vS t2):=e2;replace m1:(Y2.drewN nq).cell? ⟨gS+1,i,none⟩=some (vI (L1:Int)):=m1;replace m2:(Y2.drewN nq).cell? ⟨gS+1,k,none⟩=some (vI (L2:Int)):=m2;replace hgs:gS<(Y2.drewN nq).heap.size:=hgs;replace hgl:gS+1<(Y2.drewN nq).heap.size:=hgl
    generalize Y2.drewN nq=Y3 at *
    go_wp2_with fail;go_quiet (fail);replace F:=F.drewN nq;replace e1:(Y3.drewN nq).cell? ⟨gS,i,none⟩=some (vS t1):=e1;replace e2:(Y3.drewN nq).cell? ⟨gS,k,none⟩=some (vS t2):=e2;replace m1:(Y3.drewN nq).cell? ⟨gS+1,i,none⟩=some (vI (L1:Int)):=m1;replace m2:(Y3.drewN nq).cell? ⟨gS+1,k,none⟩=some (vI (L2:Int)):=m2;replace hgs:gS<(Y3.drewN nq).heap.size:=hgs;replace hgl:gS+1<(Y3.drewN nq).heap.size:=hgl
    generalize Y3.drewN nq=Y4 at *
    have lP:(A++⟨#[32]⟩++⟨t1.toArray⟩++⟨#[32]⟩++B++⟨#[32]⟩++⟨t2.toArray⟩++⟨#[32]⟩++C:ByteArray).data.toList=Fd a.data.toList b.data.toList c.data.toList t1 t2:=by simp[ByteArray.data_append,Fd,inB,lA,lB,lC]
    have lL:(⟨#[40]⟩++A++⟨#[32]⟩++⟨t1.toArray⟩++⟨#[32]⟩++B++⟨#[41,32]⟩++⟨t2.toArray⟩++⟨#[32]⟩++C:ByteArray).data.toList=Fh a.data.toList b.data.toList c.data.toList t1 t2:=by simp[ByteArray.data_append,Fh,inB,lA,lB,lC]
    have lR:(A++⟨#[32]⟩++⟨t1.toArray⟩++⟨#[32,40]⟩++B++⟨#[32]⟩++⟨t2.toArray⟩++⟨#[32]⟩++C++⟨#[41]⟩:ByteArray).data.toList=Gm a.data.toList b.data.toList c.data.toList t1 t2:=by simp[ByteArray.data_append,Gm,inB,lA,lB,lC]
    have sP:(A++⟨#[32]⟩++⟨t1.toArray⟩++⟨#[32]⟩++B++⟨#[32]⟩++⟨t2.toArray⟩++⟨#[32]⟩++C:ByteArray).size≤9223372036854775807:=by rw[← Ar,lP];simp[Fd,inB,Ar];omega
    have sL:(⟨#[40]⟩++A++⟨#[32]⟩++⟨t1.toArray⟩++⟨#[32]⟩++B++⟨#[41,32]⟩++⟨t2.toArray⟩++⟨#[32]⟩++C:ByteArray).size≤9223372036854775807:=by rw[← Ar,lL];simp[Fh,inB,Ar];omega
    have sR:(A++⟨#[32]⟩++⟨t1.toArray⟩++⟨#[32,40]⟩++B++⟨#[32]⟩++⟨t2.toArray⟩++⟨#[32]⟩++C++⟨#[41]⟩:ByteArray).size≤9223372036854775807:=by rw[← Ar,lR];simp[Gm,inB,Ar];omega
    generalize (A++⟨#[32]⟩++⟨t1.toArray⟩++⟨#[32]⟩++B++⟨#[32]⟩++⟨t2.toArray⟩++⟨#[32]⟩++C:ByteArray)=TP at *
    generalize (⟨#[40]⟩++A++⟨#[32]⟩++⟨t1.toArray⟩++⟨#[32]⟩++B++⟨#[41,32]⟩++⟨t2.toArray⟩++⟨#[32]⟩++C:ByteArray)=TL at *
    generalize (A++⟨#[32]⟩++⟨t1.toArray⟩++⟨#[32,40]⟩++B++⟨#[32]⟩++⟨t2.toArray⟩++⟨#[32]⟩++C++⟨#[41]⟩:ByteArray)=TR at *
    have c4:=fun w hE=>Hz (Dt TP sP w hE)
    have cL:=fun w hE=>Hz (Dt TL sL w hE)
    have cR:=fun w hE=>Hz (Dt TR sR w hE)
    rw[lP] at c4;rw[lL] at cL;rw[lR] at cR;have sLn:TL.size=(Fh a.data.toList b.data.toList c.data.toList t1 t2).length:=by rw[← lL,Ar]
    have HM1:Hid (∀ W,Fr [] Y4 W→W.cell? ⟨gS+1,i,none⟩=some (vI (L1:Int))):=Hz (fun W hW=>(hW.cell (p:=⟨gS+1,i,none⟩) hgl (fun x=>by cases x)).trans m1);have HM2:Hid (∀ W,Fr [] Y4 W→W.cell? ⟨gS+1,k,none⟩=some (vI (L2:Int))):=Hz (fun W hW=>(hW.cell (p:=⟨gS+1,k,none⟩) hgl (fun x=>by cases x)).trans m2);have F4:=Fr.refl [] Y4;have HL4:=hgl;clear d0 d1 d2 d3 d4 d5 d6 d7 d8 d9 d10 d11 d12 d13 d14 d15 d16 d17 d18 d19 d20 d21 d22 d23 lP lL lR e1 e2 m1 m2 zt1 zt2 bA bB bC lA lB lC hgs hgl;by_cases hbig:(TL.size:Int)≤4096
    ·have HLEN:Hid ((Fh a.data.toList b.data.toList c.data.toList t1 t2).length≤4096):=Hz (by omega);have hl1:=G1.out.le;have hl2:=G2.out.le;clear sLn sP sL sR;go_wp2_with fail;refine(c4 _ (HE.out.fr F)).out.mono ?_;rintro e x4 ⟨k4,a4,nm4,n4,s4,ls4,args4,arms4,A54,n54,c54,A64,n64,c64,A74,n74,c74,er4,at4,rfl,hx4,hpr4,fx4⟩;have HPR4:=Hz hpr4;clear hpr4;replace F:=F.trans fx4;replace F4:=F4.trans fx4;clear fx4;have hg4:=Nl' HL4 F4.size;have m1:=HM1.out _ F4;have m2:=HM2.out _ F4;by_cases hc0:L1=4∧L2=4
     ·obtain⟨rfl,rfl⟩:=hc0;have he:er4=21:=Pk G1.out G2.out HPR1.out HPR2.out HPR3.out HLEN.out HPR4.out;subst he;replace m1:x4.cell? ⟨gS+1,i,none⟩=some (vI 4):=m1;replace m2:x4.cell? ⟨gS+1,k,none⟩=some (vI 4):=m2;go_wp2_with fail;go_ret;exact⟨rfl,F.alloc _⟩
     ·rcases Nat.lt_trichotomy L1 L2 with hlt|heq|hgt
      ·by_cases hc1:L1=4
       ·have b1:((L1:Int)==4)=true:=by rw[beq_iff_eq];omega
        have b2:((L2:Int)==4)=false:=by rw[bN];omega
        have g0:¬ (L2:Int)<(L1:Int):=by omega
        have g1:¬ L2<L1:=by omega
        have g3:(4:Int)≤(L2:Int):=by omega
        have g4:((4:Int)==(L2:Int))=false:=by rw[bN];omega
        have q0:((L1:Int)==(L2:Int))=false:=by rw[bN];omega
        have q1:¬ L1=L2:=by omega
        go_wp2_with fail;replace F4:=F4.alloc (.cells #[vI k4,vI a4,vS nm4,vI n4,vS s4,.slice A54 n54 c54,.slice A64 n64 c64,.slice A74 n74 c74] 27);have q4:=Ab x4 (.cells #[vI k4,vI a4,vS nm4,vI n4,vS s4,.slice A54 n54 c54,.slice A64 n64 c64,.slice A74 n74 c74] 27);have fb4:=(Fr.refl [] x4).alloc (.cells #[vI k4,vI a4,vS nm4,vI n4,vS s4,.slice A54 n54 c54,.slice A64 n64 c64,.slice A74 n74 c74] 27);have HX4:=Hz (hx4.fr0 fb4);replace F:=F.trans fb4;clear fb4 hx4
        generalize x4.alloc (.cells #[vI k4,vI a4,vS nm4,vI n4,vS s4,.slice A54 n54 c54,.slice A64 n64 c64,.slice A74 n74 c74] 27)=y4 at *
        generalize x4.heap.size=T4 at *
        replace m1:=HM1.out _ F4;replace m2:=HM2.out _ F4;go_quiet (fail);replace F:=F.drewN nq;replace HX4:=Hz (HX4.out.fr ((Fr.refl [] y4).drewN nq));replace q4:(y4.drewN nq).heap[T4]?=_:=q4
        generalize y4.drewN nq=z4 at *
        clear m1 m2 hg4 F4 HM1 HM2;go_wp2_with fail;refine(cR _ (HE.out.fr F)).out.mono ?_;rintro e x5 ⟨k5,a5,nm5,n5,s5,ls5,args5,arms5,A55,n55,c55,A65,n65,c65,A75,n75,c75,er5,at5,rfl,hx5,hpr5,fx5⟩;have HPR5:=Hz hpr5;clear hpr5;replace F:=F.trans fx5;replace HX4:=Hz (HX4.out.fr fx5);replace q4:=fx5.keep q4 nE;clear fx5;obtain⟨rfl,hd,hS⟩:=Gf G1.out G2.out HPR1.out HPR2.out HPR3.out HLEN.out (.inl hlt) HPR4.out HPR5.out;have HS:=Hz hS;clear hS;have hT4:=Aa q4;obtain⟨⟨l40,l41,l42,l43,l44,l45,l46,l47⟩,_⟩:=Ac q4;rcases hd with rfl|rfl|rfl
        all_goals
         go_wp2_with fail;have q5:=Ab x5 (.cells #[vI k5,vI a5,vS nm5,vI n5,vS s5,.slice A55 n55 c55,.slice A65 n65 c65,.slice A75 n75 c75] 27);have fb5:=(Fr.refl [] x5).alloc (.cells #[vI k5,vI a5,vS nm5,vI n5,vS s5,.slice A55 n55 c55,.slice A65 n65 c65,.slice A75 n75 c75] 27);have HX5:=Hz (hx5.fr0 fb5);replace HX4:=Hz (HX4.out.fr fb5);replace q4:=fb5.keep q4 nE;replace F:=F.trans fb5;clear fb5 hx5
         generalize x5.alloc (.cells #[vI k5,vI a5,vS nm5,vI n5,vS s5,.slice A55 n55 c55,.slice A65 n65 c65,.slice A75 n75 c75] 27)=y5 at *
         generalize x5.heap.size=T5 at *
         refine(Fm HS.out HPR4.out.la A54 A55 n54 n55 c54 c55 A64 A65 n64 n65 c64 c65 A74 A75 n74 n75 c74 c75 y5 _ _ HX4.out HX5.out).mono ?_;rintro e w8 ⟨rfl,f8⟩;go_wp2_with fail;go_ret;exact⟨rfl,F.trans f8⟩
       ·have b1:((L1:Int)==4)=false:=by rw[bN];omega
        have g0:¬ (L2:Int)<(L1:Int):=by omega
        have g1:¬ L2<L1:=by omega
        have q0:((L1:Int)==(L2:Int))=false:=by rw[bN];omega
        have q1:¬ L1=L2:=by omega
        go_wp2_with fail;replace F4:=F4.alloc (.cells #[vI k4,vI a4,vS nm4,vI n4,vS s4,.slice A54 n54 c54,.slice A64 n64 c64,.slice A74 n74 c74] 27);have q4:=Ab x4 (.cells #[vI k4,vI a4,vS nm4,vI n4,vS s4,.slice A54 n54 c54,.slice A64 n64 c64,.slice A74 n74 c74] 27);have fb4:=(Fr.refl [] x4).alloc (.cells #[vI k4,vI a4,vS nm4,vI n4,vS s4,.slice A54 n54 c54,.slice A64 n64 c64,.slice A74 n74 c74] 27);have HX4:=Hz (hx4.fr0 fb4);replace F:=F.trans fb4;clear fb4 hx4
        generalize x4.alloc (.cells #[vI k4,vI a4,vS nm4,vI n4,vS s4,.slice A54 n54 c54,.slice A64 n64 c64,.slice A74 n74 c74] 27)=y4 at *
        generalize x4.heap.size=T4 at *
        replace m1:=HM1.out _ F4;replace m2:=HM2.out _ F4;go_quiet (fail);replace F:=F.drewN nq;replace HX4:=Hz (HX4.out.fr ((Fr.refl [] y4).drewN nq));replace q4:(y4.drewN nq).heap[T4]?=_:=q4
        generalize y4.drewN nq=z4 at *
        clear m1 m2 hg4 F4 HM1 HM2;go_wp2_with fail;refine(cR _ (HE.out.fr F)).out.mono ?_;rintro e x5 ⟨k5,a5,nm5,n5,s5,ls5,args5,arms5,A55,n55,c55,A65,n65,c65,A75,n75,c75,er5,at5,rfl,hx5,hpr5,fx5⟩;have HPR5:=Hz hpr5;clear hpr5;replace F:=F.trans fx5;replace HX4:=Hz (HX4.out.fr fx5);replace q4:=fx5.keep q4 nE;clear fx5;obtain⟨rfl,hd,hS⟩:=Gf G1.out G2.out HPR1.out HPR2.out HPR3.out HLEN.out (.inl hlt) HPR4.out HPR5.out;have HS:=Hz hS;clear hS;have hT4:=Aa q4;obtain⟨⟨l40,l41,l42,l43,l44,l45,l46,l47⟩,_⟩:=Ac q4;rcases hd with rfl|rfl|rfl
        all_goals
         go_wp2_with fail;have q5:=Ab x5 (.cells #[vI k5,vI a5,vS nm5,vI n5,vS s5,.slice A55 n55 c55,.slice A65 n65 c65,.slice A75 n75 c75] 27);have fb5:=(Fr.refl [] x5).alloc (.cells #[vI k5,vI a5,vS nm5,vI n5,vS s5,.slice A55 n55 c55,.slice A65 n65 c65,.slice A75 n75 c75] 27);have HX5:=Hz (hx5.fr0 fb5);replace HX4:=Hz (HX4.out.fr fb5);replace q4:=fb5.keep q4 nE;replace F:=F.trans fb5;clear fb5 hx5
         generalize x5.alloc (.cells #[vI k5,vI a5,vS nm5,vI n5,vS s5,.slice A55 n55 c55,.slice A65 n65 c65,.slice A75 n75 c75] 27)=y5 at *
         generalize x5.heap.size=T5 at *
         refine(Fm HS.out HPR4.out.la A54 A55 n54 n55 c54 c55 A64 A65 n64 n65 c64 c65 A74 A75 n74 n75 c74 c75 y5 _ _ HX4.out HX5.out).mono ?_;rintro e w8 ⟨rfl,f8⟩;go_wp2_with fail;go_ret;exact⟨rfl,F.trans f8⟩
      ·subst heq;by_cases hc1:4<L1
       ·have b1:((L1:Int)==4)=false:=by rw[bN];omega
        have g0:(4:Int)<(L1:Int):=by omega
        go_wp2_with fail;replace F4:=F4.alloc (.cells #[vI k4,vI a4,vS nm4,vI n4,vS s4,.slice A54 n54 c54,.slice A64 n64 c64,.slice A74 n74 c74] 27);have q4:=Ab x4 (.cells #[vI k4,vI a4,vS nm4,vI n4,vS s4,.slice A54 n54 c54,.slice A64 n64 c64,.slice A74 n74 c74] 27);have fb4:=(Fr.refl [] x4).alloc (.cells #[vI k4,vI a4,vS nm4,vI n4,vS s4,.slice A54 n54 c54,.slice A64 n64 c64,.slice A74 n74 c74] 27);have HX4:=Hz (hx4.fr0 fb4);replace F:=F.trans fb4;clear fb4 hx4
        generalize x4.alloc (.cells #[vI k4,vI a4,vS nm4,vI n4,vS s4,.slice A54 n54 c54,.slice A64 n64 c64,.slice A74 n74 c74] 27)=y4 at *
        generalize x4.heap.size=T4 at *
        replace m1:=HM1.out _ F4;replace m2:=HM2.out _ F4;go_quiet (fail);replace F:=F.drewN nq;replace HX4:=Hz (HX4.out.fr ((Fr.refl [] y4).drewN nq));replace q4:(y4.drewN nq).heap[T4]?=_:=q4
        generalize y4.drewN nq=z4 at *
        clear m1 m2 hg4 F4 HM1 HM2;go_wp2_with fail;refine(cL _ (HE.out.fr F)).out.mono ?_;rintro e x5 ⟨k5,a5,nm5,n5,s5,ls5,args5,arms5,A55,n55,c55,A65,n65,c65,A75,n75,c75,er5,at5,rfl,hx5,hpr5,fx5⟩;have HPR5:=Hz hpr5;clear hpr5;replace F:=F.trans fx5;replace HX4:=Hz (HX4.out.fr fx5);replace q4:=fx5.keep q4 nE;clear fx5;obtain⟨rfl,hd,hS⟩:=Ha G1.out G2.out HPR1.out HPR2.out HPR3.out HLEN.out (.inr ⟨rfl,hc1⟩) HPR4.out HPR5.out;have HS:=Hz hS;clear hS;have hT4:=Aa q4;obtain⟨⟨l40,l41,l42,l43,l44,l45,l46,l47⟩,_⟩:=Ac q4;rcases hd with rfl|rfl|rfl
        all_goals
         go_wp2_with fail;have q5:=Ab x5 (.cells #[vI k5,vI a5,vS nm5,vI n5,vS s5,.slice A55 n55 c55,.slice A65 n65 c65,.slice A75 n75 c75] 27);have fb5:=(Fr.refl [] x5).alloc (.cells #[vI k5,vI a5,vS nm5,vI n5,vS s5,.slice A55 n55 c55,.slice A65 n65 c65,.slice A75 n75 c75] 27);have HX5:=Hz (hx5.fr0 fb5);replace HX4:=Hz (HX4.out.fr fb5);replace q4:=fb5.keep q4 nE;replace F:=F.trans fb5;clear fb5 hx5
         generalize x5.alloc (.cells #[vI k5,vI a5,vS nm5,vI n5,vS s5,.slice A55 n55 c55,.slice A65 n65 c65,.slice A75 n75 c75] 27)=y5 at *
         generalize x5.heap.size=T5 at *
         refine(Fm HS.out HPR4.out.la A54 A55 n54 n55 c54 c55 A64 A65 n64 n65 c64 c65 A74 A75 n74 n75 c74 c75 y5 _ _ HX4.out HX5.out).mono ?_;rintro e w8 ⟨rfl,f8⟩;go_wp2_with fail;go_ret;exact⟨rfl,F.trans f8⟩
       ·have b1:((L1:Int)==4)=false:=by rw[bN];omega
        have g0:¬ (4:Int)<(L1:Int):=by omega
        go_wp2_with fail;replace F4:=F4.alloc (.cells #[vI k4,vI a4,vS nm4,vI n4,vS s4,.slice A54 n54 c54,.slice A64 n64 c64,.slice A74 n74 c74] 27);have q4:=Ab x4 (.cells #[vI k4,vI a4,vS nm4,vI n4,vS s4,.slice A54 n54 c54,.slice A64 n64 c64,.slice A74 n74 c74] 27);have fb4:=(Fr.refl [] x4).alloc (.cells #[vI k4,vI a4,vS nm4,vI n4,vS s4,.slice A54 n54 c54,.slice A64 n64 c64,.slice A74 n74 c74] 27);have HX4:=Hz (hx4.fr0 fb4);replace F:=F.trans fb4;clear fb4 hx4
        generalize x4.alloc (.cells #[vI k4,vI a4,vS nm4,vI n4,vS s4,.slice A54 n54 c54,.slice A64 n64 c64,.slice A74 n74 c74] 27)=y4 at *
        generalize x4.heap.size=T4 at *
        replace m1:=HM1.out _ F4;replace m2:=HM2.out _ F4;go_quiet (fail);replace F:=F.drewN nq;replace HX4:=Hz (HX4.out.fr ((Fr.refl [] y4).drewN nq));replace q4:(y4.drewN nq).heap[T4]?=_:=q4
        generalize y4.drewN nq=z4 at *
        clear m1 m2 hg4 F4 HM1 HM2;go_wp2_with fail;refine(cR _ (HE.out.fr F)).out.mono ?_;rintro e x5 ⟨k5,a5,nm5,n5,s5,ls5,args5,arms5,A55,n55,c55,A65,n65,c65,A75,n75,c75,er5,at5,rfl,hx5,hpr5,fx5⟩;have HPR5:=Hz hpr5;clear hpr5;replace F:=F.trans fx5;replace HX4:=Hz (HX4.out.fr fx5);replace q4:=fx5.keep q4 nE;clear fx5;obtain⟨rfl,hd,hS⟩:=Gf G1.out G2.out HPR1.out HPR2.out HPR3.out HLEN.out (.inr ⟨rfl,by omega⟩) HPR4.out HPR5.out;have HS:=Hz hS;clear hS;have hT4:=Aa q4;obtain⟨⟨l40,l41,l42,l43,l44,l45,l46,l47⟩,_⟩:=Ac q4;rcases hd with rfl|rfl|rfl
        all_goals
         go_wp2_with fail;have q5:=Ab x5 (.cells #[vI k5,vI a5,vS nm5,vI n5,vS s5,.slice A55 n55 c55,.slice A65 n65 c65,.slice A75 n75 c75] 27);have fb5:=(Fr.refl [] x5).alloc (.cells #[vI k5,vI a5,vS nm5,vI n5,vS s5,.slice A55 n55 c55,.slice A65 n65 c65,.slice A75 n75 c75] 27);have HX5:=Hz (hx5.fr0 fb5);replace HX4:=Hz (HX4.out.fr fb5);replace q4:=fb5.keep q4 nE;replace F:=F.trans fb5;clear fb5 hx5
         generalize x5.alloc (.cells #[vI k5,vI a5,vS nm5,vI n5,vS s5,.slice A55 n55 c55,.slice A65 n65 c65,.slice A75 n75 c75] 27)=y5 at *
         generalize x5.heap.size=T5 at *
         refine(Fm HS.out HPR4.out.la A54 A55 n54 n55 c54 c55 A64 A65 n64 n65 c64 c65 A74 A75 n74 n75 c74 c75 y5 _ _ HX4.out HX5.out).mono ?_;rintro e w8 ⟨rfl,f8⟩;go_wp2_with fail;go_ret;exact⟨rfl,F.trans f8⟩
      ·by_cases hc1:L1=4
       ·have b1:((L1:Int)==4)=true:=by rw[beq_iff_eq];omega
        have b2:((L2:Int)==4)=false:=by rw[bN];omega
        have g0:(L2:Int)<(L1:Int):=by omega
        have g1:L2<L1:=by omega
        have g3:¬ (4:Int)≤(L2:Int):=by omega
        have g4:(L2:Int)<4:=by omega
        go_wp2_with fail;replace F4:=F4.alloc (.cells #[vI k4,vI a4,vS nm4,vI n4,vS s4,.slice A54 n54 c54,.slice A64 n64 c64,.slice A74 n74 c74] 27);have q4:=Ab x4 (.cells #[vI k4,vI a4,vS nm4,vI n4,vS s4,.slice A54 n54 c54,.slice A64 n64 c64,.slice A74 n74 c74] 27);have fb4:=(Fr.refl [] x4).alloc (.cells #[vI k4,vI a4,vS nm4,vI n4,vS s4,.slice A54 n54 c54,.slice A64 n64 c64,.slice A74 n74 c74] 27);have HX4:=Hz (hx4.fr0 fb4);replace F:=F.trans fb4;clear fb4 hx4
        generalize x4.alloc (.cells #[vI k4,vI a4,vS nm4,vI n4,vS s4,.slice A54 n54 c54,.slice A64 n64 c64,.slice A74 n74 c74] 27)=y4 at *
        generalize x4.heap.size=T4 at *
        replace m1:=HM1.out _ F4;replace m2:=HM2.out _ F4;go_quiet (fail);replace F:=F.drewN nq;replace HX4:=Hz (HX4.out.fr ((Fr.refl [] y4).drewN nq));replace q4:(y4.drewN nq).heap[T4]?=_:=q4
        generalize y4.drewN nq=z4 at *
        clear m1 m2 hg4 F4 HM1 HM2;go_wp2_with fail;refine(cL _ (HE.out.fr F)).out.mono ?_;rintro e x5 ⟨k5,a5,nm5,n5,s5,ls5,args5,arms5,A55,n55,c55,A65,n65,c65,A75,n75,c75,er5,at5,rfl,hx5,hpr5,fx5⟩;have HPR5:=Hz hpr5;clear hpr5;replace F:=F.trans fx5;replace HX4:=Hz (HX4.out.fr fx5);replace q4:=fx5.keep q4 nE;clear fx5;obtain⟨rfl,hd,hS⟩:=Ha G1.out G2.out HPR1.out HPR2.out HPR3.out HLEN.out (.inl hgt) HPR4.out HPR5.out;have HS:=Hz hS;clear hS;have hT4:=Aa q4;obtain⟨⟨l40,l41,l42,l43,l44,l45,l46,l47⟩,_⟩:=Ac q4;rcases hd with rfl|rfl|rfl
        all_goals
         go_wp2_with fail;have q5:=Ab x5 (.cells #[vI k5,vI a5,vS nm5,vI n5,vS s5,.slice A55 n55 c55,.slice A65 n65 c65,.slice A75 n75 c75] 27);have fb5:=(Fr.refl [] x5).alloc (.cells #[vI k5,vI a5,vS nm5,vI n5,vS s5,.slice A55 n55 c55,.slice A65 n65 c65,.slice A75 n75 c75] 27);have HX5:=Hz (hx5.fr0 fb5);replace HX4:=Hz (HX4.out.fr fb5);replace q4:=fb5.keep q4 nE;replace F:=F.trans fb5;clear fb5 hx5
         generalize x5.alloc (.cells #[vI k5,vI a5,vS nm5,vI n5,vS s5,.slice A55 n55 c55,.slice A65 n65 c65,.slice A75 n75 c75] 27)=y5 at *
         generalize x5.heap.size=T5 at *
         refine(Fm HS.out HPR4.out.la A54 A55 n54 n55 c54 c55 A64 A65 n64 n65 c64 c65 A74 A75 n74 n75 c74 c75 y5 _ _ HX4.out HX5.out).mono ?_;rintro e w8 ⟨rfl,f8⟩;go_wp2_with fail;go_ret;exact⟨rfl,F.trans f8⟩
       ·have b1:((L1:Int)==4)=false:=by rw[bN];omega
        have g0:(L2:Int)<(L1:Int):=by omega
        have g1:L2<L1:=by omega
        go_wp2_with fail;replace F4:=F4.alloc (.cells #[vI k4,vI a4,vS nm4,vI n4,vS s4,.slice A54 n54 c54,.slice A64 n64 c64,.slice A74 n74 c74] 27);have q4:=Ab x4 (.cells #[vI k4,vI a4,vS nm4,vI n4,vS s4,.slice A54 n54 c54,.slice A64 n64 c64,.slice A74 n74 c74] 27);have fb4:=(Fr.refl [] x4).alloc (.cells #[vI k4,vI a4,vS nm4,vI n4,vS s4,.slice A54 n54 c54,.slice A64 n64 c64,.slice A74 n74 c74] 27);have HX4:=Hz (hx4.fr0 fb4);replace F:=F.trans fb4;clear fb4 hx4
        generalize x4.alloc (.cells #[vI k4,vI a4,vS nm4,vI n4,vS s4,.slice A54 n54 c54,.slice A64 n64 c64,.slice A74 n74 c74] 27)=y4 at *
        generalize x4.heap.size=T4 at *
        replace m1:=HM1.out _ F4;replace m2:=HM2.out _ F4;go_quiet (fail);replace F:=F.drewN nq;replace HX4:=Hz (HX4.out.fr ((Fr.refl [] y4).drewN nq));replace q4:(y4.drewN nq).heap[T4]?=_:=q4
        generalize y4.drewN nq=z4 at *
        clear m1 m2 hg4 F4 HM1 HM2;go_wp2_with fail;refine(cL _ (HE.out.fr F)).out.mono ?_;rintro e x5 ⟨k5,a5,nm5,n5,s5,ls5,args5,arms5,A55,n55,c55,A65,n65,c65,A75,n75,c75,er5,at5,rfl,hx5,hpr5,fx5⟩;have HPR5:=Hz hpr5;clear hpr5;replace F:=F.trans fx5;replace HX4:=Hz (HX4.out.fr fx5);replace q4:=fx5.keep q4 nE;clear fx5;obtain⟨rfl,hd,hS⟩:=Ha G1.out G2.out HPR1.out HPR2.out HPR3.out HLEN.out (.inl hgt) HPR4.out HPR5.out;have HS:=Hz hS;clear hS;have hT4:=Aa q4;obtain⟨⟨l40,l41,l42,l43,l44,l45,l46,l47⟩,_⟩:=Ac q4;rcases hd with rfl|rfl|rfl
        all_goals
         go_wp2_with fail;have q5:=Ab x5 (.cells #[vI k5,vI a5,vS nm5,vI n5,vS s5,.slice A55 n55 c55,.slice A65 n65 c65,.slice A75 n75 c75] 27);have fb5:=(Fr.refl [] x5).alloc (.cells #[vI k5,vI a5,vS nm5,vI n5,vS s5,.slice A55 n55 c55,.slice A65 n65 c65,.slice A75 n75 c75] 27);have HX5:=Hz (hx5.fr0 fb5);replace HX4:=Hz (HX4.out.fr fb5);replace q4:=fb5.keep q4 nE;replace F:=F.trans fb5;clear fb5 hx5
         generalize x5.alloc (.cells #[vI k5,vI a5,vS nm5,vI n5,vS s5,.slice A55 n55 c55,.slice A65 n65 c65,.slice A75 n75 c75] 27)=y5 at *
         generalize x5.heap.size=T5 at *
         refine(Fm HS.out HPR4.out.la A54 A55 n54 n55 c54 c55 A64 A65 n64 n65 c64 c65 A74 A75 n74 n75 c74 c75 y5 _ _ HX4.out HX5.out).mono ?_;rintro e w8 ⟨rfl,f8⟩;go_wp2_with fail;go_ret;exact⟨rfl,F.trans f8⟩
    ·clear sLn sP sL sR HM1 HM2 c4 cL cR;have hbig2:(4096:Int)<(TL.size:Int):=by omega
     go_wp2_with fail;go_ret;exact⟨rfl,F⟩
   ·have hne:(er3 != 0)=true:=bne_iff_ne.2 he3;subst he1 he2;clear he3;go_wp2_with fail;go_ret;exact⟨rfl,F.alloc _⟩
  ·have hne:(er2 != 0)=true:=bne_iff_ne.2 he2;subst he1;clear he2;go_wp2_with fail;go_ret;exact⟨rfl,F.alloc _⟩
 ·have hne:(er1 != 0)=true:=bne_iff_ne.2 he1;clear he1;go_wp2_with fail;go_ret;exact⟨rfl,F.alloc _⟩
end
section
open Go.ChangeShapes Go.WideShapes Go.ChangeAt Go.ChangeMaps Go.RowKit
section
theorem Ih(os:Os){H:Type}(enc:TypeId×Value→H):∃ places,DataW.whole enc Tryz.prog ((Rp os).forCall (fun _ _=>0) ⟨#[],#[.string ⟨#[]⟩,.string ⟨#[]⟩,.string ⟨#[]⟩,.int .u8 0,.int .u8 0],[]⟩).memory Tryz.f9.params.toList Rows.parseBindsSpec.vars false (#[.string ⟨#[]⟩,.string ⟨#[]⟩,.string ⟨#[]⟩,.int .u8 0,.int .u8 0]:Array Value).toList 8=some ([.lit (.string []),.lit (.string []),.lit (.string []),.lit (.int .u8 0),.lit (.int .u8 0)],[],places):=
 ⟨[],by kernel_rfl⟩
set_option maxRecDepth 100000 in
theorem G3(H:Type)(enc:TypeId×Value→H)(W:World)(base:Nat)(args:Array Value)(ds gs:List (DataW H))(before:List MemPlace)
  (hval:∀ (j:Nat) t v,Tryz.f9.params[j]?=some t→args[j]?=some v→Value.okWide Tryz.prog W .any base t v)
  (hW:DataW.Whole enc Tryz.prog Tryz.f9.params.toList Rows.parseBindsSpec.vars false W args.toList ds gs before) (hsz:(DataW.weightsEach Tryz.prog (Tryz.f9.params.toList++Rows.parseBindsSpec.plain.varTypes Tryz.prog) (ds++gs)).all (·≤reachBytes)=true) (hL:laidMetH Tryz.prog Rows.parseBindsRow.laid W) (hS:W.ShapedOpen Tryz.prog):
  Calls Tryz.prog 9 args W fun e W'=>∃ v,e = .returned v∧Rows.parseBindsSpec.post enc Tryz.prog Tryz.f9 false true false false W args v W':=by
 have hE:=env_of hL hS
 have hW':=hW
 obtain⟨p,q,hA0,hV,rfl,hfz,hnd⟩:=hW
 have hA:DataW.TrodAll enc Tryz.prog W 0 (fun _=>true) true Tryz.f9.params.toList args.toList ds p:=hA0
 rw[Tryz.params9] at hA hval hsz
 obtain⟨v0,vs0,d0,ds0,p0,q0,hargs,rfl,rfl,t0,r0⟩:=trodAll_cons hA
 obtain⟨v1,vs1,d1,ds1,p1,q1,rfl,rfl,rfl,t1,r1⟩:=trodAll_cons r0
 obtain⟨v2,vs2,d2,ds2,p2,q2,rfl,rfl,rfl,t2,r2⟩:=trodAll_cons r1
 obtain⟨v3,vs3,d3,ds3,p3,q3,rfl,rfl,rfl,t3,r3⟩:=trodAll_cons r2
 obtain⟨v4,vs4,d4,ds4,p4,q4,rfl,rfl,rfl,t4,r4⟩:=trodAll_cons r3
 obtain⟨rfl,rfl,rfl⟩:=trodAll_nil r4
 obtain rfl:args = #[v0,v1,v2,v3,v4]:=by cases args;simp_all
 obtain⟨rfl,rfl⟩:=trodVars_none hV
 obtain⟨a,rfl,rfl,rfl,ha⟩:=open_string Tryz.underlying9 (hval 0 9 v0 rfl rfl) t0
 obtain⟨b,rfl,rfl,rfl,hb⟩:=open_string Tryz.underlying9 (hval 1 9 v1 rfl rfl) t1
 obtain⟨c,rfl,rfl,rfl,hc⟩:=open_string Tryz.underlying9 (hval 2 9 v2 rfl rfl) t2
 obtain⟨x,rfl,rfl,rfl,hx⟩:=open_int Tryz.underlying5 (hval 3 5 v3 rfl rfl) t3
 obtain⟨y,rfl,rfl,rfl,hy⟩:=open_int Tryz.underlying5 (hval 4 5 v4 rfl rfl) t4
 have za:a.size≤140737488351232:=sized_string hsz (j:=0) (t:=9) (bytes:=a.data.toList) rfl rfl
 have zb:b.size≤140737488351232:=sized_string hsz (j:=1) (t:=9) (bytes:=b.data.toList) rfl rfl
 have zc:c.size≤140737488351232:=sized_string hsz (j:=2) (t:=9) (bytes:=c.data.toList) rfl rfl
 clear hA0
 simp only[List.append_nil] at hW'
 refine(Iu a b c (by omega) (by omega) (by omega) x y (Pc hx).1 (Pc hx).2 (Pc hy).1 (Pc hy).2 W hE).mono fun e W' ⟨he,hf⟩=>?_
 subst he
 refine⟨_,rfl,_,_,_,[],[],[],hW',?_,?_,rfl,hf.below0.frame _,fun h=>by cases h⟩
 ·exact trodAll_cons_mk (shut_bool Tryz.underlying4 _) trodAll_mk0
 ·exact trodAll_cons_mk (shut_string Tryz.underlying9 ha) (trodAll_cons_mk (shut_string Tryz.underlying9 hb) (trodAll_cons_mk (shut_string Tryz.underlying9 hc) (trodAll_cons_mk (shut_int Tryz.underlying5 hx) (trodAll_cons_mk (shut_int Tryz.underlying5 hy) trodAll_mk0))))
set_option maxRecDepth 100000 in
theorem Hu(os:Os)(started:os.Started)(H:Type)(enc:TypeId×Value→H)(F:Stop.Interp):
  ReturnsInHanded {} Tryz.checked os 9 .any ((OpenSpec.ofChange Rows.parseBindsSpec).preRow enc Tryz.prog Tryz.f9 Rows.parseBindsRow.domain false Rows.parseBindsRow.laid) (((OpenSpec.ofChange Rows.parseBindsSpec).at F).post enc Tryz.prog Tryz.f9 false true false false):=by
 obtain⟨places,hx⟩:=Ih os enc
 refine returnsInHanded_of_row (C:=Tryz.checked) (s:=OpenSpec.ofChange Rows.parseBindsSpec) own started (by kernel_rfl) Tryz.func9
  (witness_row_atRef (enc:=enc) (C:=Tryz.checked) false (Rp os) #[.string ⟨#[]⟩,.string ⟨#[]⟩,.string ⟨#[]⟩,.int .u8 0,.int .u8 0] rfl (by kernel_rfl) (by kernel_rfl) (by kernel_rfl)
   (OpenSpec.preRow_of_cond 8 hx (by kernel_rfl) (fun k hk=>by cases hk) (by kernel_rfl) (R8 os _))) ?_
 intro W base args ds gs before hval hW _ _ hsz hL hS _
 exact G3 H enc W base args ds gs before hval hW hsz hL hS
theorem I2:Rows.ParseBindsSaid :=
 OpenClaim.holds_of_cond 9 Tryz.f9 rfl rfl rfl rfl rfl rfl rfl ⟨rfl,rfl,rfl,rfl,rfl⟩ rfl rfl rfl rfl rfl (by kernel_rfl) Tryz.func9 (by kernel_rfl)
  (of_decide_eq_true (by kernel_rfl)) (by unfold Func.isWrapper;first|(rw[if_pos (by decide +kernel)];kernel_rfl)| (rw[if_neg (by decide +kernel)];exact⟨rfl,rfl⟩))
  (fun os started H enc _ F=>by rw[OpenClaim.pre_eq_preRow];exact Hu os started H enc F)
theorem Ig (f : FuncId) (fn : Func) (hf : Tryz.pinned.checked.prog.funcNamed "marquetry/marquetrylaw06.ParseBinds" = some f) (hfn : Tryz.pinned.checked.prog.funcs[f]? = some fn) :
  true=Tryz.pinned.checked.prog.looks []∧∀ (j:Nat) t,fn.params[j]?=some t→Tryz.pinned.checked.prog.wantsStandIn t=false:=by
 obtain rfl : f = 9 := Option.some.inj ((show Tryz.prog.funcNamed "marquetry/marquetrylaw06.ParseBinds" = some 9 by kernel_rfl).symm.trans hf) |>.symm
 obtain rfl:fn=Tryz.f9:=(Option.some.inj (Tryz.func9.symm.trans hfn)).symm
 refine⟨by kernel_rfl,fun j t ht=>?_⟩
 rw[Tryz.params9] at ht
 have hm:t ∈ [9,9,9,5,5]:=by simpa using Array.mem_of_getElem? ht
 have hall:([9,9,9,5,5].all fun u=>!Tryz.prog.wantsStandIn u)=true:=by kernel_rfl
 exact(show Tryz.prog.wantsStandIn t=false by simpa using List.all_eq_true.1 hall t hm)
theorem parseBinds_card:Rows.ParseBindsCardSaid :=
 Claim7.holds_tied_plain_at .later [] _ _ _ _ I2 (fun _ h=>by cases h) (by kernel_rfl) (fun _ h=>by cases h) parseBinds_row_tie rfl ⟨rfl,rfl⟩ (by kernel_rfl) rfl Ig (by kernel_rfl)
end
end
end Go.Proofs.YtpjkfeehgookkaaGreatDoor
