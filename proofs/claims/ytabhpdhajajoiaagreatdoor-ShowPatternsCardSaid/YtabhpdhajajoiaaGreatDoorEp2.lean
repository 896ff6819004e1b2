/- A part of the proof: Zb, Zc, Zd, Ze, Xe. -/
import Derived.BigQuiet
import Derived.Deep.DrawnRows
import Derived.Deep.RegionHeld3
import Derived.Test.YtabhpdhajajoiaaGreatDoorEp1
namespace Go.Proofs.YtabhpdhajajoiaaGreatDoor
open Go.RowKit
open _root_.Go.Proofs.Tryz
set_option linter.all false
set_option maxHeartbeats 16000000
set_option maxRecDepth 100000
open List renaming length_append→La',getElem?_eq_getElem→Lg'
open Nat renaming lt_of_lt_of_le→Nl'
open Bool renaming and_eq_true→Ba'
def formQ(k:Int)(nm:LB)(n:Int)(s:LB)(nl na:Nat):Bool :=
 (match Ee k 0 with|some h=>Ah h nm n s nl na 0|none=>false)&&D9 k nm n []
theorem formQ_of{k:Int}(hk:k≠9)(nm:LB)(n:Int)(s:LB)(ls:List LB)(na:Nat):F0 k nm n s ls na=formQ k nm n s ls.length na:=by
 unfold F0 formQ
 have h1:Ee k ls.length=Ee k 0:=by
  unfold Ee;rw[if_neg hk,if_neg hk]
 have h2:D9 k nm n ls=D9 k nm n []:=by
  unfold D9;rw[if_neg hk,if_neg hk]
 rw[h1,h2];cases Ee k 0 <;> rfl
theorem RpatForm_else(k a:Int)(nm:LB)(n:Int)(s:LB)(nl na:Nat)(A5 A6:Option Addr)(c5 c6:Nat)(w:World)(hk:k≠9)(hl:nm.length≤65536):
  Calls prog 66 #[.agg #[vI k,vI a,vS nm,vI n,vS s,.slice A5 nl c5,.slice A6 na c6]] w fun e w'=>e = .returned (.bool (formQ k nm n s nl na))∧Fr [] w w':=by
 have cN:=fun w=>Hz (RIsName_any ⟨nm.toArray⟩ (by simp[ByteArray.size];omega) w)
 have cU:=fun w=>Hz (RUpper_any ⟨nm.toArray⟩ (by simp[ByteArray.size];omega) w)
 simp only[show(⟨nm.toArray⟩:ByteArray).data.toList=nm from rfl] at cN cU;by_cases hkk:k=1∨k=2∨k=3∨k=4∨k=5∨k=6∨k=7∨k=8
 ·rcases hkk with rfl|rfl|rfl|rfl|rfl|rfl|rfl|rfl
  ·by_cases t0:nm=[]
   ·subst t0;by_cases t1:n=0
    ·subst t1
     by_cases t2:s=[]
     ·subst t2;by_cases t3:nl=0
      ·subst t3;by_cases t4:na=0
       ·subst t4;go_enter func66,ntmps66;go_wp2_with fail;go_ret;exact⟨by simp[formQ,Ee,Ah,D9,Ea, *],by(repeat first|exact Fr.refl _ _|refine Fr.alloc ?_ _|refine Fr.drew ?_|refine Fr.setCell ?_ (.inr (by simp)) _)⟩
       ·have e4:((na:Int)==0)=false:=by rw[bN];omega
        go_enter func66,ntmps66;go_wp2_with fail;go_ret;exact⟨by simp[formQ,Ee,Ah,D9,Ea, *],by(repeat first|exact Fr.refl _ _|refine Fr.alloc ?_ _|refine Fr.drew ?_|refine Fr.setCell ?_ (.inr (by simp)) _)⟩
      ·have e3:((nl:Int)==0)=false:=by rw[bN];omega
       go_enter func66,ntmps66;go_wp2_with fail;go_ret;exact⟨by simp[formQ,Ee,Ah,D9,Ea, *],by(repeat first|exact Fr.refl _ _|refine Fr.alloc ?_ _|refine Fr.drew ?_|refine Fr.setCell ?_ (.inr (by simp)) _)⟩
     ·have e2:(s==[])=false:=by rw[bN];exact t2
      go_enter func66,ntmps66;go_wp2_with fail;go_ret;exact⟨by simp[formQ,Ee,Ah,D9,Ea, *],by(repeat first|exact Fr.refl _ _|refine Fr.alloc ?_ _|refine Fr.drew ?_|refine Fr.setCell ?_ (.inr (by simp)) _)⟩
    ·have e1:(n==0)=false:=by rw[bN];exact t1
     go_enter func66,ntmps66;go_wp2_with fail;go_ret;exact⟨by simp[formQ,Ee,Ah,D9,Ea, *],by(repeat first|exact Fr.refl _ _|refine Fr.alloc ?_ _|refine Fr.drew ?_|refine Fr.setCell ?_ (.inr (by simp)) _)⟩
   ·have e0:(nm==[])=false:=by rw[bN];exact t0
    go_enter func66,ntmps66;go_wp2_with fail;go_ret;exact⟨by simp[formQ,Ee,Ah,D9,Ea, *],by(repeat first|exact Fr.refl _ _|refine Fr.alloc ?_ _|refine Fr.drew ?_|refine Fr.setCell ?_ (.inr (by simp)) _)⟩
  ·by_cases t1:n=0
   ·subst t1
    by_cases t2:s=[]
    ·subst t2;by_cases t3:nl=0
     ·subst t3;by_cases t4:na=0
      ·subst t4
       cases hb:As nm <;> cases hu:(nm==[95])
       all_goals
        rw[hb] at cN;go_enter func66,ntmps66;go_wp2_with fail;have q0:=Ad w (.cells #[vI 2,vI a,vS nm,vI 0,.string ⟨[].toArray⟩,.slice A5 0 c5,.slice A6 0 c6] 25);refine(cN _).out.mono ?_;rintro e w1 ⟨rfl,f1⟩;have q1:=f1.keep q0 nE;obtain⟨⟨l0,l1,l2,l3,l4,l5,l6⟩,_⟩:=Aq q1;go_wp2_with fail;go_ret;exact⟨by simp[formQ,Ee,Ah,D9,hb,hu],Fr.trans (by(repeat first|exact Fr.refl _ _|refine Fr.alloc ?_ _|refine Fr.drew ?_|refine Fr.setCell ?_ (.inr (by simp)) _)) f1⟩
      ·have e4:((na:Int)==0)=false:=by rw[bN];omega
       go_enter func66,ntmps66;go_wp2_with fail;go_ret;exact⟨by simp[formQ,Ee,Ah,D9,Ea, *],by(repeat first|exact Fr.refl _ _|refine Fr.alloc ?_ _|refine Fr.drew ?_|refine Fr.setCell ?_ (.inr (by simp)) _)⟩
     ·have e3:((nl:Int)==0)=false:=by rw[bN];omega
      go_enter func66,ntmps66;go_wp2_with fail;go_ret;exact⟨by simp[formQ,Ee,Ah,D9,Ea, *],by(repeat first|exact Fr.refl _ _|refine Fr.alloc ?_ _|refine Fr.drew ?_|refine Fr.setCell ?_ (.inr (by simp)) _)⟩
    ·have e2:(s==[])=false:=by rw[bN];exact t2
     go_enter func66,ntmps66;go_wp2_with fail;go_ret;exact⟨by simp[formQ,Ee,Ah,D9,Ea, *],by(repeat first|exact Fr.refl _ _|refine Fr.alloc ?_ _|refine Fr.drew ?_|refine Fr.setCell ?_ (.inr (by simp)) _)⟩
   ·have e1:(n==0)=false:=by rw[bN];exact t1
    go_enter func66,ntmps66;go_wp2_with fail;go_ret;exact⟨by simp[formQ,Ee,Ah,D9,Ea, *],by(repeat first|exact Fr.refl _ _|refine Fr.alloc ?_ _|refine Fr.drew ?_|refine Fr.setCell ?_ (.inr (by simp)) _)⟩
  ·by_cases t0:nm=[]
   ·subst t0
    by_cases t2:s=[]
    ·subst t2;by_cases t3:nl=0
     ·subst t3;by_cases t4:na=0
      ·subst t4;have hq3:formQ 3 [] n [] 0 0=(decide (-4611686018427387903≤n)&&decide (n≤4611686018427387903)):=by simp[formQ,Ee,Ah,D9,Ea];rfl
       rw[hq3];by_cases h1:n≤4611686018427387903
       ·by_cases h2:-4611686018427387903≤n
        all_goals
         go_enter func66,ntmps66;go_wp2_with fail;go_ret;exact⟨by simp[h1,h2],by(repeat first|exact Fr.refl _ _|refine Fr.alloc ?_ _|refine Fr.drew ?_|refine Fr.setCell ?_ (.inr (by simp)) _)⟩
       ·go_enter func66,ntmps66;go_wp2_with fail;go_ret;exact⟨by simp[h1],by(repeat first|exact Fr.refl _ _|refine Fr.alloc ?_ _|refine Fr.drew ?_|refine Fr.setCell ?_ (.inr (by simp)) _)⟩
      ·have e4:((na:Int)==0)=false:=by rw[bN];omega
       go_enter func66,ntmps66;go_wp2_with fail;go_ret;exact⟨by simp[formQ,Ee,Ah,D9,Ea, *],by(repeat first|exact Fr.refl _ _|refine Fr.alloc ?_ _|refine Fr.drew ?_|refine Fr.setCell ?_ (.inr (by simp)) _)⟩
     ·have e3:((nl:Int)==0)=false:=by rw[bN];omega
      go_enter func66,ntmps66;go_wp2_with fail;go_ret;exact⟨by simp[formQ,Ee,Ah,D9,Ea, *],by(repeat first|exact Fr.refl _ _|refine Fr.alloc ?_ _|refine Fr.drew ?_|refine Fr.setCell ?_ (.inr (by simp)) _)⟩
    ·have e2:(s==[])=false:=by rw[bN];exact t2
     go_enter func66,ntmps66;go_wp2_with fail;go_ret;exact⟨by simp[formQ,Ee,Ah,D9,Ea, *],by(repeat first|exact Fr.refl _ _|refine Fr.alloc ?_ _|refine Fr.drew ?_|refine Fr.setCell ?_ (.inr (by simp)) _)⟩
   ·have e0:(nm==[])=false:=by rw[bN];exact t0
    go_enter func66,ntmps66;go_wp2_with fail;go_ret;exact⟨by simp[formQ,Ee,Ah,D9,Ea, *],by(repeat first|exact Fr.refl _ _|refine Fr.alloc ?_ _|refine Fr.drew ?_|refine Fr.setCell ?_ (.inr (by simp)) _)⟩
  ·by_cases t0:nm=[]
   ·subst t0;by_cases t1:n=0
    ·subst t1;by_cases t3:nl=0
     ·subst t3;by_cases t4:na=0
      ·subst t4;go_enter func66,ntmps66;go_wp2_with fail;go_ret;exact⟨by simp[formQ,Ee,Ah,D9,Ea, *],by(repeat first|exact Fr.refl _ _|refine Fr.alloc ?_ _|refine Fr.drew ?_|refine Fr.setCell ?_ (.inr (by simp)) _)⟩
      ·have e4:((na:Int)==0)=false:=by rw[bN];omega
       go_enter func66,ntmps66;go_wp2_with fail;go_ret;exact⟨by simp[formQ,Ee,Ah,D9,Ea, *],by(repeat first|exact Fr.refl _ _|refine Fr.alloc ?_ _|refine Fr.drew ?_|refine Fr.setCell ?_ (.inr (by simp)) _)⟩
     ·have e3:((nl:Int)==0)=false:=by rw[bN];omega
      go_enter func66,ntmps66;go_wp2_with fail;go_ret;exact⟨by simp[formQ,Ee,Ah,D9,Ea, *],by(repeat first|exact Fr.refl _ _|refine Fr.alloc ?_ _|refine Fr.drew ?_|refine Fr.setCell ?_ (.inr (by simp)) _)⟩
    ·have e1:(n==0)=false:=by rw[bN];exact t1
     go_enter func66,ntmps66;go_wp2_with fail;go_ret;exact⟨by simp[formQ,Ee,Ah,D9,Ea, *],by(repeat first|exact Fr.refl _ _|refine Fr.alloc ?_ _|refine Fr.drew ?_|refine Fr.setCell ?_ (.inr (by simp)) _)⟩
   ·have e0:(nm==[])=false:=by rw[bN];exact t0
    go_enter func66,ntmps66;go_wp2_with fail;go_ret;exact⟨by simp[formQ,Ee,Ah,D9,Ea, *],by(repeat first|exact Fr.refl _ _|refine Fr.alloc ?_ _|refine Fr.drew ?_|refine Fr.setCell ?_ (.inr (by simp)) _)⟩
  ·by_cases t0:nm=[]
   ·subst t0
    by_cases t2:s=[]
    ·subst t2;by_cases t3:nl=0
     ·subst t3;by_cases t4:na=0
      ·subst t4
       cases h1:(n==0)<;> cases h2:(n==1)
       all_goals
        go_enter func66,ntmps66;go_wp2_with fail;go_ret;exact⟨by simp[formQ,Ee,Ah,D9,Ea, *],by(repeat first|exact Fr.refl _ _|refine Fr.alloc ?_ _|refine Fr.drew ?_|refine Fr.setCell ?_ (.inr (by simp)) _)⟩
      ·have e4:((na:Int)==0)=false:=by rw[bN];omega
       go_enter func66,ntmps66;go_wp2_with fail;go_ret;exact⟨by simp[formQ,Ee,Ah,D9,Ea, *],by(repeat first|exact Fr.refl _ _|refine Fr.alloc ?_ _|refine Fr.drew ?_|refine Fr.setCell ?_ (.inr (by simp)) _)⟩
     ·have e3:((nl:Int)==0)=false:=by rw[bN];omega
      go_enter func66,ntmps66;go_wp2_with fail;go_ret;exact⟨by simp[formQ,Ee,Ah,D9,Ea, *],by(repeat first|exact Fr.refl _ _|refine Fr.alloc ?_ _|refine Fr.drew ?_|refine Fr.setCell ?_ (.inr (by simp)) _)⟩
    ·have e2:(s==[])=false:=by rw[bN];exact t2
     go_enter func66,ntmps66;go_wp2_with fail;go_ret;exact⟨by simp[formQ,Ee,Ah,D9,Ea, *],by(repeat first|exact Fr.refl _ _|refine Fr.alloc ?_ _|refine Fr.drew ?_|refine Fr.setCell ?_ (.inr (by simp)) _)⟩
   ·have e0:(nm==[])=false:=by rw[bN];exact t0
    go_enter func66,ntmps66;go_wp2_with fail;go_ret;exact⟨by simp[formQ,Ee,Ah,D9,Ea, *],by(repeat first|exact Fr.refl _ _|refine Fr.alloc ?_ _|refine Fr.drew ?_|refine Fr.setCell ?_ (.inr (by simp)) _)⟩
  ·by_cases t0:nm=[]
   ·subst t0;by_cases t1:n=0
    ·subst t1
     by_cases t2:s=[]
     ·subst t2;by_cases t3:nl=0
      ·subst t3;by_cases t4:na=0
       ·subst t4;go_enter func66,ntmps66;go_wp2_with fail;go_ret;exact⟨by simp[formQ,Ee,Ah,D9,Ea, *],by(repeat first|exact Fr.refl _ _|refine Fr.alloc ?_ _|refine Fr.drew ?_|refine Fr.setCell ?_ (.inr (by simp)) _)⟩
       ·have e4:((na:Int)==0)=false:=by rw[bN];omega
        go_enter func66,ntmps66;go_wp2_with fail;go_ret;exact⟨by simp[formQ,Ee,Ah,D9,Ea, *],by(repeat first|exact Fr.refl _ _|refine Fr.alloc ?_ _|refine Fr.drew ?_|refine Fr.setCell ?_ (.inr (by simp)) _)⟩
      ·have e3:((nl:Int)==0)=false:=by rw[bN];omega
       go_enter func66,ntmps66;go_wp2_with fail;go_ret;exact⟨by simp[formQ,Ee,Ah,D9,Ea, *],by(repeat first|exact Fr.refl _ _|refine Fr.alloc ?_ _|refine Fr.drew ?_|refine Fr.setCell ?_ (.inr (by simp)) _)⟩
     ·have e2:(s==[])=false:=by rw[bN];exact t2
      go_enter func66,ntmps66;go_wp2_with fail;go_ret;exact⟨by simp[formQ,Ee,Ah,D9,Ea, *],by(repeat first|exact Fr.refl _ _|refine Fr.alloc ?_ _|refine Fr.drew ?_|refine Fr.setCell ?_ (.inr (by simp)) _)⟩
    ·have e1:(n==0)=false:=by rw[bN];exact t1
     go_enter func66,ntmps66;go_wp2_with fail;go_ret;exact⟨by simp[formQ,Ee,Ah,D9,Ea, *],by(repeat first|exact Fr.refl _ _|refine Fr.alloc ?_ _|refine Fr.drew ?_|refine Fr.setCell ?_ (.inr (by simp)) _)⟩
   ·have e0:(nm==[])=false:=by rw[bN];exact t0
    go_enter func66,ntmps66;go_wp2_with fail;go_ret;exact⟨by simp[formQ,Ee,Ah,D9,Ea, *],by(repeat first|exact Fr.refl _ _|refine Fr.alloc ?_ _|refine Fr.drew ?_|refine Fr.setCell ?_ (.inr (by simp)) _)⟩
  ·by_cases t1:n=0
   ·subst t1
    by_cases t2:s=[]
    ·subst t2;by_cases t3:nl=0
     ·subst t3;by_cases t4:na=0
      ·subst t4;cases hb:Dm nm
       all_goals
        rw[hb] at cU;go_enter func66,ntmps66;go_wp2_with fail;refine(cU _).out.mono ?_;rintro e w1 ⟨rfl,f1⟩;go_wp2_with fail;go_ret;exact⟨by simp[formQ,Ee,Ah,D9,hb],Fr.trans (by(repeat first|exact Fr.refl _ _|refine Fr.alloc ?_ _|refine Fr.drew ?_|refine Fr.setCell ?_ (.inr (by simp)) _)) f1⟩
      ·have e4:((na:Int)==0)=false:=by rw[bN];omega
       go_enter func66,ntmps66;go_wp2_with fail;go_ret;exact⟨by simp[formQ,Ee,Ah,D9,Ea, *],by(repeat first|exact Fr.refl _ _|refine Fr.alloc ?_ _|refine Fr.drew ?_|refine Fr.setCell ?_ (.inr (by simp)) _)⟩
     ·have e3:((nl:Int)==0)=false:=by rw[bN];omega
      go_enter func66,ntmps66;go_wp2_with fail;go_ret;exact⟨by simp[formQ,Ee,Ah,D9,Ea, *],by(repeat first|exact Fr.refl _ _|refine Fr.alloc ?_ _|refine Fr.drew ?_|refine Fr.setCell ?_ (.inr (by simp)) _)⟩
    ·have e2:(s==[])=false:=by rw[bN];exact t2
     go_enter func66,ntmps66;go_wp2_with fail;go_ret;exact⟨by simp[formQ,Ee,Ah,D9,Ea, *],by(repeat first|exact Fr.refl _ _|refine Fr.alloc ?_ _|refine Fr.drew ?_|refine Fr.setCell ?_ (.inr (by simp)) _)⟩
   ·have e1:(n==0)=false:=by rw[bN];exact t1
    go_enter func66,ntmps66;go_wp2_with fail;go_ret;exact⟨by simp[formQ,Ee,Ah,D9,Ea, *],by(repeat first|exact Fr.refl _ _|refine Fr.alloc ?_ _|refine Fr.drew ?_|refine Fr.setCell ?_ (.inr (by simp)) _)⟩
  ·by_cases t1:n=0
   ·subst t1
    by_cases t2:s=[]
    ·subst t2;by_cases t3:nl=0
     ·subst t3;by_cases t4:na=1
      ·subst t4;cases hb:Dm nm
       all_goals
        rw[hb] at cU;go_enter func66,ntmps66;go_wp2_with fail;refine(cU _).out.mono ?_;rintro e w1 ⟨rfl,f1⟩;go_wp2_with fail;go_ret;exact⟨by simp[formQ,Ee,Ah,D9,hb],Fr.trans (by(repeat first|exact Fr.refl _ _|refine Fr.alloc ?_ _|refine Fr.drew ?_|refine Fr.setCell ?_ (.inr (by simp)) _)) f1⟩
      ·have e4:((na:Int)==1)=false:=by rw[bN];omega
       go_enter func66,ntmps66;go_wp2_with fail;go_ret;exact⟨by simp[formQ,Ee,Ah,D9,Ea, *],by(repeat first|exact Fr.refl _ _|refine Fr.alloc ?_ _|refine Fr.drew ?_|refine Fr.setCell ?_ (.inr (by simp)) _)⟩
     ·have e3:((nl:Int)==0)=false:=by rw[bN];omega
      go_enter func66,ntmps66;go_wp2_with fail;go_ret;exact⟨by simp[formQ,Ee,Ah,D9,Ea, *],by(repeat first|exact Fr.refl _ _|refine Fr.alloc ?_ _|refine Fr.drew ?_|refine Fr.setCell ?_ (.inr (by simp)) _)⟩
    ·have e2:(s==[])=false:=by rw[bN];exact t2
     go_enter func66,ntmps66;go_wp2_with fail;go_ret;exact⟨by simp[formQ,Ee,Ah,D9,Ea, *],by(repeat first|exact Fr.refl _ _|refine Fr.alloc ?_ _|refine Fr.drew ?_|refine Fr.setCell ?_ (.inr (by simp)) _)⟩
   ·have e1:(n==0)=false:=by rw[bN];exact t1
    go_enter func66,ntmps66;go_wp2_with fail;go_ret;exact⟨by simp[formQ,Ee,Ah,D9,Ea, *],by(repeat first|exact Fr.refl _ _|refine Fr.alloc ?_ _|refine Fr.drew ?_|refine Fr.setCell ?_ (.inr (by simp)) _)⟩
 ·have hk9:=hk;obtain⟨d1,d2,d3,d4,d5,d6,d7,d8⟩:k≠1∧k≠2∧k≠3∧k≠4∧k≠5∧k≠6∧k≠7∧k≠8:=by omega
  have z1:(k==1)=false:=by rw[bN];exact d1
  have z2:(k==2)=false:=by rw[bN];exact d2
  have z3:(k==3)=false:=by rw[bN];exact d3
  have z4:(k==4)=false:=by rw[bN];exact d4
  have z5:(k==5)=false:=by rw[bN];exact d5
  have z6:(k==6)=false:=by rw[bN];exact d6
  have z7:(k==7)=false:=by rw[bN];exact d7
  have z8:(k==8)=false:=by rw[bN];exact d8
  have z9:(k==9)=false:=by rw[bN];exact hk9
  have hq:formQ k nm n s nl na=false:=by simp[formQ,Ee,d1,d2,d3,d4,d5,d6,d7,d8,hk]
  rw[hq];clear hq d1 d2 d3 d4 d5 d6 d7 d8 hk hk9 hkk cN cU;have d4:¬ k=4:=by intro h;rw[h] at z4;cases z4
  by_cases t0:nm=[]
  ·subst t0;by_cases t1:n=0
   ·subst t1
    by_cases t2:s=[]
    ·subst t2;by_cases t3:nl=0
     ·subst t3;by_cases t4:na=0
      ·subst t4;go_enter func66,ntmps66;go_wp2_with fail;go_ret;exact⟨rfl,by(repeat first|exact Fr.refl _ _|refine Fr.alloc ?_ _|refine Fr.drew ?_|refine Fr.setCell ?_ (.inr (by simp)) _)⟩
      ·have e4:((na:Int)==0)=false:=by rw[bN];omega
       go_enter func66,ntmps66;go_wp2_with fail;go_ret;exact⟨rfl,by(repeat first|exact Fr.refl _ _|refine Fr.alloc ?_ _|refine Fr.drew ?_|refine Fr.setCell ?_ (.inr (by simp)) _)⟩
     ·have e3:((nl:Int)==0)=false:=by rw[bN];omega
      go_enter func66,ntmps66;go_wp2_with fail;go_ret;exact⟨rfl,by(repeat first|exact Fr.refl _ _|refine Fr.alloc ?_ _|refine Fr.drew ?_|refine Fr.setCell ?_ (.inr (by simp)) _)⟩
    ·have e2:(s==[])=false:=by rw[bN];exact t2
     go_enter func66,ntmps66;go_wp2_with fail;go_ret;exact⟨rfl,by(repeat first|exact Fr.refl _ _|refine Fr.alloc ?_ _|refine Fr.drew ?_|refine Fr.setCell ?_ (.inr (by simp)) _)⟩
   ·have e1:(n==0)=false:=by rw[bN];exact t1
    go_enter func66,ntmps66;go_wp2_with fail;go_ret;exact⟨rfl,by(repeat first|exact Fr.refl _ _|refine Fr.alloc ?_ _|refine Fr.drew ?_|refine Fr.setCell ?_ (.inr (by simp)) _)⟩
  ·have e0:(nm==[])=false:=by rw[bN];exact t0
   go_enter func66,ntmps66;go_wp2_with fail;go_ret;exact⟨rfl,by(repeat first|exact Fr.refl _ _|refine Fr.alloc ?_ _|refine Fr.drew ?_|refine Fr.setCell ?_ (.inr (by simp)) _)⟩
section
attribute [local go_sem ↓] Go.wp_at_zero Go.wp_at_succ
theorem formP_rec(nm:LB)(n:Int)(s:LB)(ls:List LB)(na:Nat):F0 9 nm n s ls na=(nm.isEmpty&&n==0&&s.isEmpty&&na==ls.length&&ls.all As):=by
 simp[F0,Ee,Ah,D9]
theorem all_at{f:LB→Bool}{l:List LB}{i:Nat}{x:LB}(h:l[i]?=some x):(l.drop i).all f=(f x&&(l.drop (i+1)).all f):=by
 obtain⟨hi,e⟩:=List.getElem?_eq_some_iff.1 h;rw[List.drop_eq_getElem_cons hi,List.all_cons,e]
theorem RpatForm_rec(a:Int)(nm:LB)(n:Int)(s:LB)(ls:List LB)(na:Nat)(A5 A6:Option Addr)(c5 c6:Nat)(d5:Nat→List Value)(ok:Nat→Prop)(w:World)(h5:Dy w ok (.slice A5 ls.length c5) ls.length 1 d5)(e5:∀ (i:Nat)(x:LB),ls[i]?=some x→d5 i=Of x)(hs:∀ x ∈ ls,x.length≤65536)(hl:(ls.length:Int)≤140737488351232):
  Calls prog 66 #[.agg #[vI 9,vI a,vS nm,vI n,vS s,.slice A5 ls.length c5,.slice A6 na c6]] w fun e w'=>e = .returned (.bool (F0 9 nm n s ls na))∧Fr [] w w':=by
 rw[formP_rec]
 by_cases t0:nm=[]
 ·subst t0;by_cases t1:n=0
  ·subst t1
   by_cases t2:s=[]
   ·subst t2;by_cases t4:na=ls.length
    ·subst t4;have e:(List.isEmpty ([]:LB)&&(0:Int)==0&&List.isEmpty ([]:LB)&&ls.length==ls.length&&ls.all As)=ls.all As:=by simp
     rw[e]
     obtain⟨R,hR⟩:∃ R,ls.all As=R:=⟨_,rfl⟩
     rw[hR];have HR:Hid ((ls.drop 0).all As=R):=Hz (by rw[List.drop_zero];exact hR);have H5:=Hz h5;have E5:=Hz e5;have HS:=Hz hs;have f0:=(Fr.refl [] w).alloc (.cells #[vI 9,vI a,.string ⟨[].toArray⟩,vI 0,.string ⟨[].toArray⟩,.slice A5 ls.length c5,.slice A6 ls.length c6] 25);have q0:=Ad w (.cells #[vI 9,vI a,.string ⟨[].toArray⟩,vI 0,.string ⟨[].toArray⟩,.slice A5 ls.length c5,.slice A6 ls.length c6] 25);clear h5 e5 hs hR e;go_enter func66,ntmps66;go_wp2_with fail
     generalize w.alloc (.cells #[vI 9,vI a,.string ⟨[].toArray⟩,vI 0,.string ⟨[].toArray⟩,.slice A5 ls.length c5,.slice A6 ls.length c6] 25)=x at *
     generalize hT:w.heap.size=T at *
     go_loopw [7] (fun iv wr=>∃ (i:Nat),iv=vI i∧i≤ls.length∧Hid ((ls.drop i).all As=R)∧Fr [] x wr) (fun iv wr=>ls.length-(intOf iv).toNat)
     case atStart=>exact⟨0,rfl,by omega,HR,Fr.refl _ _⟩
     case round =>
      obtain⟨i,rfl,hi,HI,fr⟩:=hrel;clear HR;have q1:(0:Int)≤(i:Int):=by omega
      have q3:=fr.keep q0 nE;obtain⟨⟨l0,l1,l2,l3,l4,l5,l6⟩,_⟩:=Aq q3;by_cases hlt:i<ls.length
      ·obtain⟨y,hy⟩:∃ y,ls[i]?=some y:=⟨ls[i],Lg' hlt⟩
       obtain⟨g,og,rfl,_,hg,_,_,hc⟩:=H5.out.row hlt;rw[E5.out i y hy] at hc;have x0:wr.cell? ⟨g,og+i,none⟩=some (vS y):=((f0.trans fr).cell (p:=⟨g,og+i,none⟩) hg (fun x=>by cases x)).trans (by have:=hc 0 _ rfl;simpa using this);have hyl:=HS.out y (List.mem_of_getElem? hy);have hI:=HI.out;rw[all_at hy] at hI;have cN:=Hz (RIsName_any ⟨y.toArray⟩ (by simp[ByteArray.size];omega) wr);simp only[show(⟨y.toArray⟩:ByteArray).data.toList=y from rfl] at cN;have q2:(i:Int)<(ls.length:Int):=by omega
       clear hc hy HI
       cases hb:As y with
       | false =>
        rw[hb] at hI cN;have hR:R=false:=by simpa using hI.symm
        subst hR;clear hI;go_wp2_with fail;refine cN.out.mono ?_;rintro e w6 ⟨rfl,f6⟩;go_wp2_with fail;go_ret
        exact⟨rfl,(f0.trans fr).trans f6⟩
       | true =>
        rw[hb] at hI cN;have HJ:Hid ((ls.drop (i+1)).all As=R):=Hz (by simpa using hI);clear hI;go_wp2_with fail;refine cN.out.mono ?_;rintro e w6 ⟨rfl,f6⟩;go_wp2_with fail
        go_roundw
        case rel=>exact⟨i+1,by go_num,by omega,HJ,fr.trans f6⟩
        case measure=>simp[intOf];omega
      ·have hR:R=true:=by
        have:=HI.out;rw[List.drop_eq_nil_of_le (show ls.length≤i by omega)] at this;exact this.symm
       subst hR;clear HI;have q2:¬ (i:Int)<(ls.length:Int):=by omega
       go_wp2_with fail;go_ret;exact⟨rfl,f0.trans fr⟩
    ·have e4:((na:Int)==(ls.length:Int))=false:=by rw[bN];omega
     have e:(List.isEmpty ([]:LB)&&(0:Int)==0&&List.isEmpty ([]:LB)&&na==ls.length&&ls.all As)=false:=by simp[t4]
     rw[e];go_enter func66,ntmps66;go_wp2_with fail;go_ret;exact⟨rfl,by(repeat first|exact Fr.refl _ _|refine Fr.alloc ?_ _|refine Fr.drew ?_|refine Fr.setCell ?_ (.inr (by simp)) _)⟩
   ·have e2:(s==[])=false:=by rw[bN];exact t2
    go_enter func66,ntmps66;go_wp2_with fail;go_ret;exact⟨by simp[t2],by(repeat first|exact Fr.refl _ _|refine Fr.alloc ?_ _|refine Fr.drew ?_|refine Fr.setCell ?_ (.inr (by simp)) _)⟩
  ·have e1:(n==0)=false:=by rw[bN];exact t1
   go_enter func66,ntmps66;go_wp2_with fail;go_ret;exact⟨by simp[t1],by(repeat first|exact Fr.refl _ _|refine Fr.alloc ?_ _|refine Fr.drew ?_|refine Fr.setCell ?_ (.inr (by simp)) _)⟩
 ·have e0:(nm==[])=false:=by rw[bN];exact t0
  go_enter func66,ntmps66;go_wp2_with fail;go_ret;exact⟨by simp[t0],by(repeat first|exact Fr.refl _ _|refine Fr.alloc ?_ _|refine Fr.drew ?_|refine Fr.setCell ?_ (.inr (by simp)) _)⟩
theorem RpatForm_any(k a:Int)(nm:LB)(n:Int)(s:LB)(ls:List LB)(na:Nat)(A5 A6:Option Addr)(c5 c6:Nat)(d5:Nat→List Value)(ok:Nat→Prop)(w:World)(h5:Dy w ok (.slice A5 ls.length c5) ls.length 1 d5)(e5:∀ (i:Nat)(x:LB),ls[i]?=some x→d5 i=Of x)(hs:nmOk nm n s ls)(hl:(ls.length:Int)≤140737488351232):
  Calls prog 66 #[.agg #[vI k,vI a,vS nm,vI n,vS s,.slice A5 ls.length c5,.slice A6 na c6]] w fun e w'=>e = .returned (.bool (F0 k nm n s ls na))∧Fr [] w w':=by
 by_cases hk:k=9
 ·subst hk;exact RpatForm_rec a nm n s ls na A5 A6 c5 c6 d5 ok w h5 e5 hs.2.2.2 hl
 ·rw[formQ_of hk];exact RpatForm_else k a nm n s ls.length na A5 A6 c5 c6 w hk hs.1
theorem mayPs_at{l:List Ak}{i:Nat}{x:Ak}(h:l[i]?=some x):Db (l.drop i)=(Ct x&&Db (l.drop (i+1))):=by
 obtain⟨hi,e⟩:=List.getElem?_eq_some_iff.1 h;rw[List.drop_eq_getElem_cons hi,Db,e]
def PMA(N:Nat):Prop:=∀ (k a:Int)(nm:LB)(n:Int)(s:LB)(ls:List LB)(args:List Ak)(A5 A6:Option Addr)(c5 c6:Nat)(w:World)(ok:Nat→Prop),szP (.mk k a nm n s ls args)<N→WtP (.mk k a nm n s ls args)→SwP (.mk k a nm n s ls args)→Bd w ok (.mk k a nm n s ls args) [vI k,vI a,vS nm,vI n,vS s,.slice A5 ls.length c5,.slice A6 args.length c6] →
  Calls prog 34 #[.agg #[vI k,vI a,vS nm,vI n,vS s,.slice A5 ls.length c5,.slice A6 args.length c6]] w fun e w'=>e = .returned (.bool (Ct (.mk k a nm n s ls args)))∧Fr [] w w'
theorem pma_step(N:Nat)(ih:PMA N):PMA (N+1):=by
 intro k a nm n s ls args A5 A6 c5 c6 w ok hN hW hS hx
 cases hW with
 | mk hk h1 h2 h3 h4 h5' h6' =>
 cases hx with
 | mk d5 d6 h5 e5 h6 e6 =>
 rw[show szP (.mk k a nm n s ls args)=1+Ey args by simp[szP]] at hN;have HN:=Hz hN;have IH:=Hz ih;have H6:=Hz h6;have E6:Hid (∀ (i:Nat) (x:Ak),args[i]?=some x→Bd w ok x (d6 i)):=Hz e6;have HW6:Hid (∀ (i:Nat) (x:Ak),args[i]?=some x→WtP x):=Hz h6';have HS6:Hid (∀ (i:Nat) (x:Ak),args[i]?=some x→SwP x):=Hz (fun i x hx=>hS.2.get hx);have b3:(ls.length:Int)≤140737488351232:=by unfold reachBytes at h3;omega
 have b4:(args.length:Int)≤140737488351232:=by unfold reachBytes at h5';omega
 have f0:=(Fr.refl [] w).alloc (.cells #[vI k,vI a,vS nm,vI n,vS s,.slice A5 ls.length c5,.slice A6 args.length c6] 25);have cF:=Hz (RpatForm_any k a nm n s ls args.length A5 A6 c5 c6 d5 (fun _=>True) (w.alloc (.cells #[vI k,vI a,vS nm,vI n,vS s,.slice A5 ls.length c5,.slice A6 args.length c6] 25)) (h5.keep (Sh.of_fr f0 (fun b hb _=>⟨trivial,fun x=>by cases x⟩))) e5 hS.1 b3);have q0:=Ad w (.cells #[vI k,vI a,vS nm,vI n,vS s,.slice A5 ls.length c5,.slice A6 args.length c6] 25);have hm:Ct (.mk k a nm n s ls args)=(F0 k nm n s ls args.length&&Db (args.drop 0)):=by rw[List.drop_zero,Ct]
 rw[hm]
 obtain⟨F,hfm⟩:∃ F,F0 k nm n s ls args.length=F:=⟨_,rfl⟩
 obtain⟨R,hR⟩:∃ R,Db (args.drop 0)=R:=⟨_,rfl⟩
 rw[hfm] at cF;rw[hfm,hR];have HR:=Hz hR;clear hN ih h5 e5 h6 e6 h1 h2 h3 h4 h5' h6' hk hm hS hfm hR;go_enter func34,ntmps34;go_wp2_with fail
 generalize w.alloc (.cells #[vI k,vI a,vS nm,vI n,vS s,.slice A5 ls.length c5,.slice A6 args.length c6] 25)=x at *
 generalize hT:w.heap.size=T at *
 obtain⟨⟨l0,l1,l2,l3,l4,l5,l6⟩,_⟩:=Aq q0
 cases F with
 | false =>
  go_wp2_with fail;refine cF.out.mono ?_;rintro e w6 ⟨rfl,f6⟩;go_wp2_with fail;go_ret
  exact⟨rfl,f0.trans f6⟩
 | true =>
  go_wp2_with fail;refine cF.out.mono ?_;rintro e w6 ⟨rfl,f6⟩;have q0:=f6.keep q0 nE;have f0:=f0.trans f6;clear f6 cF l0 l1 l2 l3 l4 l5 l6;go_wp2_with fail
  go_loopw [3] (fun iv wr=>∃ (i:Nat),iv=vI i∧i≤args.length∧Hid (Db (args.drop i)=R)∧Fr [] w6 wr) (fun iv wr=>args.length-(intOf iv).toNat)
  case atStart=>exact⟨0,rfl,by omega,HR,Fr.refl _ _⟩
  case round =>
   obtain⟨i,rfl,hi,HI,fr⟩:=hrel;clear HR;have q1:(0:Int)≤(i:Int):=by omega
   have q3:=fr.keep q0 nE;obtain⟨⟨l0,l1,l2,l3,l4,l5,l6⟩,_⟩:=Aq q3;by_cases hlt:i<args.length
   ·obtain⟨y,hy⟩:∃ y,args[i]?=some y:=⟨args[i],Lg' hlt⟩
    obtain⟨g,og,rfl,_,hg,_,_,hc⟩:=H6.out.row hlt;have hI:=HI.out;rw[mayPs_at hy] at hI;have hyy:=E6.out i y hy;have hwy:=HW6.out i y hy;have hsy:=HS6.out i y hy;have hzy:=Gz hy
    generalize d6 i=di at *
    have hyw:=hyy.keep (w':=wr) (ok':=ok) (Sh.of_fr (f0.trans fr) (fun b hb _=>⟨hb,fun x=>by cases x⟩))
    cases hyy with
    | @mk k2 a2 nm2 n2 s2 ls2 args2 v5 v6 _ _ r5 _ r6 _ =>
    obtain⟨A52,cc52,rfl⟩:=r5.form;obtain⟨A62,cc62,rfl⟩:=r6.form;clear r5 r6;have cX:=Hz (IH.out k2 a2 nm2 n2 s2 ls2 args2 A52 A62 cc52 cc62 wr ok (by have:=HN.out;omega) hwy hsy hyw);obtain⟨x0,x1,x2,x3,x4,x5,x6⟩:=Vs hg (f0.trans fr) hc
    generalize Ct (.mk k2 a2 nm2 n2 s2 ls2 args2)=M2q at *
    clear hc hy HI hwy hyw hzy hsy;have q2:(i:Int)<(args.length:Int):=by omega
    cases M2q with
    | false =>
     have hR:R=false:=by simpa using hI.symm
     subst hR;clear hI;go_wp2_with fail;refine cX.out.mono ?_;rintro e w7 ⟨rfl,f7⟩;go_wp2_with fail;go_ret
     exact⟨rfl,(f0.trans fr).trans f7⟩
    | true =>
     have HJ:Hid (Db (args.drop (i+1))=R):=Hz (by simpa using hI);clear hI;go_wp2_with fail;refine cX.out.mono ?_;rintro e w7 ⟨rfl,f7⟩;go_wp2_with fail
     go_roundw
     case rel=>exact⟨i+1,by go_num,by omega,HJ,fr.trans f7⟩
     case measure=>simp[intOf];omega
   ·have hR:R=true:=by
     have:=HI.out;rw[List.drop_eq_nil_of_le (show args.length≤i by omega)] at this;exact this.symm
    subst hR;clear HI;have q2:¬ (i:Int)<(args.length:Int):=by omega
    go_wp2_with fail;go_ret;exact⟨rfl,f0.trans fr⟩
theorem pma_all:∀ N,PMA N
 | 0=>by intro _ _ _ _ _ _ _ _ _ _ _ _ _ h;exact absurd h (Nat.not_lt_zero _)
 | N+1=>pma_step N (pma_all N)
theorem mayP_kind{k a:Int}{nm:LB}{n:Int}{s:LB}{ls:List LB}{args:List Ak}(h:Ct (.mk k a nm n s ls args)=true):(k=1∨k=2∨k=3∨k=4∨k=5∨k=6∨k=7∨(k=8∧args.length=1)∨(k=9∧args.length=ls.length))∧Db args=true:=by
 rw[Ct,Ba'] at h;refine⟨?_,h.2⟩;have h1:=h.1;by_cases hk:k=9
 ·subst hk;rw[formP_rec] at h1;simp at h1;have:=h1.1.2;omega
 ·rw[formQ_of hk] at h1;by_cases h8:k=8
  ·subst h8;simp[formQ,Ee,Ah] at h1;have:=h1.1.2;omega
  ·by_cases h0:k=1∨k=2∨k=3∨k=4∨k=5∨k=6∨k=7
   ·omega
   ·exfalso
    have:Ee k 0=none:=by
     unfold Ee
     repeat rw[if_neg (by omega)]
    unfold formQ at h1;rw[this] at h1;cases h1
theorem mayPs_mem{l:List Ak}(h:Db l=true){i:Nat}{x:Ak}(hi:l[i]?=some x):Ct x=true:=by
 induction l generalizing i with
 | nil=>simp at hi
 | cons y l ih =>
  rw[Db,Ba'] at h
  cases i with
  | zero=>simp at hi;subst hi;exact h.1
  | succ i=>exact ih h.2 (by simpa using hi)
theorem rowL_at{ls:List LB}{args:List Ak}{i:Nat}{y:LB}{x:Ak}(h1:ls[i]?=some y)(h2:args[i]?=some x)(f:Bool):G8 f (ls.drop i) (Gg (args.drop i))=(if f=true then [] else [44,32])++(y++([32,61,32]++(txP x++G8 false (ls.drop (i+1)) (Gg (args.drop (i+1)))))):=by
 obtain⟨hi,e⟩:=List.getElem?_eq_some_iff.1 h1;obtain⟨hj,e'⟩:=List.getElem?_eq_some_iff.1 h2;rw[List.drop_eq_getElem_cons hi,List.drop_eq_getElem_cons hj,Gg,G8,e,e']
def PTA(N:Nat):Prop:=∀ (k a:Int)(nm:LB)(n:Int)(s:LB)(ls:List LB)(args:List Ak)(A5 A6:Option Addr)(c5 c6:Nat)(w:World)(ok:Nat→Prop),szP (.mk k a nm n s ls args)<N→WtP (.mk k a nm n s ls args)→SwP (.mk k a nm n s ls args)→Ct (.mk k a nm n s ls args)=true→szP (.mk k a nm n s ls args)≤1048576→Bd w ok (.mk k a nm n s ls args) [vI k,vI a,vS nm,vI n,vS s,.slice A5 ls.length c5,.slice A6 args.length c6] →
  Calls prog 36 #[.agg #[vI k,vI a,vS nm,vI n,vS s,.slice A5 ls.length c5,.slice A6 args.length c6]] w fun e w'=>e = .returned (.string ⟨(txP (.mk k a nm n s ls args)).toArray⟩)∧Fr [] w w'
theorem pta_step(N:Nat)(ih:PTA N):PTA (N+1):=by
 intro k a nm n s ls args A5 A6 c5 c6 w ok hN hW hS hM hZ hx;have hBd:=X1 _ hS;obtain⟨hkk,hMs⟩:=mayP_kind hM
 cases hW with
 | mk hk h1 h2 h3 h4 h5' h6' =>
 cases hx with
 | mk d5 d6 h5 e5 h6 e6 =>
 rw[txP] at hBd;rw[show szP (.mk k a nm n s ls args)=1+Ey args by simp[szP]] at hN hZ hBd;have HN:=Hz hN;have IH:=Hz ih;have H5:=Hz h5;have E5:=Hz e5;have H6:=Hz h6;have E6:Hid (∀ (i:Nat) (x:Ak),args[i]?=some x→Bd w ok x (d6 i)):=Hz e6;have HW6:Hid (∀ (i:Nat) (x:Ak),args[i]?=some x→WtP x):=Hz h6';have HS6:Hid (∀ (i:Nat) (x:Ak),args[i]?=some x→SwP x):=Hz (fun i x hx=>hS.2.get hx);have HM6:Hid (∀ (i:Nat) (x:Ak),args[i]?=some x→Ct x=true):=Hz (fun i x hx=>mayPs_mem hMs hx);have HS:=Hz hS.1;have HT6:Hid (∀ (i:Nat) (x:Ak),args[i]?=some x→(txP x).length≤1099511627776∧szP x≤1048576):=Hz (fun i x hx=>by have:=Gz hx;have:=X1 _ (hS.2.get hx);omega);have hnl:nm.length≤65536:=hS.1.1;have HLs:Hid (∀ x ∈ ls,x.length≤65536):=Hz hS.1.2.2.2;have hpt:(Mb k nm n s ls (Gg args)).length≤1099511627776:=by omega
 have b3:(ls.length:Int)≤140737488351232:=by unfold reachBytes at h3;omega
 have b4:(args.length:Int)≤140737488351232:=by unfold reachBytes at h5';omega
 have f0:=(Fr.refl [] w).alloc (.cells #[vI k,vI a,vS nm,vI n,vS s,.slice A5 ls.length c5,.slice A6 args.length c6] 25);have q0:=Ad w (.cells #[vI k,vI a,vS nm,vI n,vS s,.slice A5 ls.length c5,.slice A6 args.length c6] 25);rw[txP];clear hN ih h5 e5 h6 e6 h1 h2 h3 h4 h5' h6' hk hS hM hMs hZ hBd
 rcases hkk with rfl|rfl|rfl|rfl|rfl|rfl|rfl|⟨rfl,hlen⟩| ⟨rfl,hlen⟩
 ·go_enter func36,ntmps36;go_wp2_with fail;go_ret;exact⟨rfl,f0⟩
 ·go_enter func36,ntmps36;go_wp2_with fail;go_ret;exact⟨rfl,f0⟩
 ·have cT:=fun w=>Hz (RText_any n HS.out.2.1.1 HS.out.2.1.2 w)
  go_enter func36,ntmps36;go_wp2_with fail;refine(cT _).out.mono ?_;rintro e w6 ⟨rfl,f6⟩;go_wp2_with fail;go_ret;exact⟨rfl,f0.trans f6⟩
 ·have cQ:=fun w=>Hz (RQuote_any ⟨s.toArray⟩ (by have:=HS.out.2.2.1;simp[ByteArray.size];omega) w)
  simp only[show(⟨s.toArray⟩:ByteArray).data.toList=s from rfl] at cQ;go_enter func36,ntmps36;go_wp2_with fail;refine(cQ _).out.mono ?_;rintro e w6 ⟨rfl,f6⟩;go_wp2_with fail;go_ret;exact⟨rfl,f0.trans f6⟩
 ·have cT:=fun w=>Hz (Rtruth_any n w)
  go_enter func36,ntmps36;go_wp2_with fail;refine(cT _).out.mono ?_;rintro e w6 ⟨rfl,rfl⟩;go_wp2_with fail;go_ret;exact⟨rfl,f0⟩
 ·go_enter func36,ntmps36;go_wp2_with fail;go_ret;exact⟨rfl,f0⟩
 ·go_enter func36,ntmps36;go_wp2_with fail;go_ret;exact⟨rfl,f0⟩
 ·have hlt:0<args.length:=by omega
  obtain⟨y,hy⟩:∃ y,args[0]?=some y:=⟨args[0],Lg' hlt⟩
  have hto:Mb 8 nm n s ls (Gg args)=[40,35]++nm++[32]++txP y++[41]:=by
   cases args with
   | nil=>simp at hlt
   | cons z l=>simp at hy;subst hy;simp[Mb,Gg]
  rw[hto];obtain⟨g,og,rfl,_,hg,_,_,hc⟩:=H6.out.row hlt;have hyy:=E6.out 0 y hy;have hwy:=HW6.out 0 y hy;have hsy:=HS6.out 0 y hy;have hmy:=HM6.out 0 y hy;have hzy:=Gz hy
  generalize d6 0=di at *
  have hyw:=hyy.keep (w':=w.alloc (.cells #[vI 8,vI a,vS nm,vI n,vS s,.slice A5 ls.length c5,.slice (some ⟨g,og,none⟩) args.length c6] 25)) (ok':=ok) (Sh.of_fr f0 (fun b hb _=>⟨hb,fun x=>by cases x⟩))
  cases hyy with
  | @mk k2 a2 nm2 n2 s2 ls2 args2 v5 v6 _ _ r5 _ r6 _ =>
  obtain⟨A52,cc52,rfl⟩:=r5.form;obtain⟨A62,cc62,rfl⟩:=r6.form;clear r5 r6;rw[hlen] at q0 f0 hyw;rw[hlen];have HC:=Hz hc;have htl:=(HT6.out 0 _ hy).1;have hX:=IH.out k2 a2 nm2 n2 s2 ls2 args2 A52 A62 cc52 cc62
  generalize txP (.mk k2 a2 nm2 n2 s2 ls2 args2)=t2 at *
  have hX:=Hz hX;have z1:¬ 9223372036854775807<2+nm.length:=by omega
  have z2:¬ 9223372036854775807<2+nm.length+1:=by omega
  have z3:¬ 9223372036854775807<2+nm.length+1+t2.length:=by omega
  have z4:¬ 9223372036854775807<2+nm.length+1+t2.length+1:=by omega
  clear hto hpt;go_enter func36,ntmps36;go_wp2_with fail
  generalize w.alloc (.cells #[vI 8,vI a,vS nm,vI n,vS s,.slice A5 ls.length c5,.slice (some ⟨g,og,none⟩) 1 c6] 25)=x at *
  generalize hT:w.heap.size=T at *
  have HD:=Hz (Fr.drew (Fr.refl [] x));have cX:=Hz (hX.out x.drew ok (by have:=HN.out;omega) hwy hsy hmy (HT6.out 0 _ hy).2 (hyw.keep (Sh.of_fr HD.out (fun b hb _=>⟨hb,fun x=>by cases x⟩))));obtain⟨⟨l0,l1,l2,l3,l4,l5,l6⟩,_⟩:=Aq q0;obtain⟨x0,x1,x2,x3,x4,x5,x6⟩:=Vs (by rw[hT];exact hg) f0 HC.out;simp only[Nat.zero_mul,Nat.add_zero] at x0 x1 x2 x3 x4 x5 x6;clear hc hy hwy hyw hzy hsy hmy hlt
  go_region_held3 (fun w'=>w'.cell? ⟨T,2,none⟩=some (vS nm)∧w'.cell? ⟨T,6,none⟩=some (.slice (some ⟨g,og,none⟩) 1 c6)∧w'.cell? ⟨g,og,none⟩=some (vI k2)∧w'.cell? ⟨g,og+1,none⟩=some (vI a2)∧w'.cell? ⟨g,og+2,none⟩=some (vS nm2)∧w'.cell? ⟨g,og+3,none⟩=some (vI n2)∧w'.cell? ⟨g,og+4,none⟩=some (vS s2)∧w'.cell? ⟨g,og+5,none⟩=some (.slice A52 ls2.length cc52)∧w'.cell? ⟨g,og+6,none⟩=some (.slice A62 args2.length cc62)) (first|go_keep|exact⟨l2,l6,x0,x1,x2,x3,x4,x5,x6⟩) (((with_reducible refine cX.out.mono ?_);rintro e w3 ⟨rfl,f3⟩;obtain⟨⟨l0,l1,l2,l3,l4,l5,l6⟩,_⟩:=Aq ((HD.out.trans f3).keep q0 nE);obtain⟨x0,x1,x2,x3,x4,x5,x6⟩:=Vs (by rw[hT];exact hg) (f0.trans (HD.out.trans f3)) HC.out;simp only[Nat.zero_mul,Nat.add_zero] at x0 x1 x2 x3 x4 x5 x6))
  go_wp2_with fail;go_ret;exact⟨by simp[ByteArray.ext_iff,ByteArray.data_append],f0.trans (HD.out.trans f3)⟩
 ·obtain⟨R,hR⟩:∃ R,G8 true ls (Gg args)=R:=⟨_,rfl⟩
  have hto:Mb 9 nm n s ls (Gg args)=[123]++R++[125]:=by rw[← hR];simp[Mb]
  rw[hto];have HR:Hid ([]++G8 (decide ((0:Nat)=0)) (ls.drop 0) (Gg (args.drop 0))=R):=Hz (by rw[List.drop_zero,List.drop_zero];exact hR);have hRl:R.length≤1099511627776:=by rw[hto] at hpt;simp at hpt;omega
  have HLEN:=Hz hlen;rw[hlen] at q0 f0 b4;rw[hlen];clear hto hR hlen hpt;go_enter func36,ntmps36;go_wp2_with fail
  generalize w.alloc (.cells #[vI 9,vI a,vS nm,vI n,vS s,.slice A5 ls.length c5,.slice A6 ls.length c6] 25)=x at *
  generalize hT:w.heap.size=T at *
  go_loopw [3,4] (fun ov iv wr=>∃ (i:Nat) (L:LB),ov = .string ⟨(123::L).toArray⟩∧iv=vI i∧i≤ls.length∧Hid (L++G8 (decide (i=0)) (ls.drop i) (Gg (args.drop i))=R)∧Fr [] x wr) (fun ov iv wr=>ls.length-(intOf iv).toNat)
  case atStart=>exact⟨0,[],rfl,rfl,by omega,HR,Fr.refl _ _⟩
  case round =>
   obtain⟨i,L,rfl,rfl,hi,HI,fr⟩:=hrel;clear HR;have q1:(0:Int)≤(i:Int):=by omega
   have q3:=fr.keep q0 nE;obtain⟨⟨l0,l1,l2,l3,l4,l5,l6⟩,_⟩:=Aq q3;have hLl:L.length≤1099511627776:=by have:=congrArg List.length HI.out;rw[La'] at this;omega
   by_cases hlt2:i<ls.length
   ·have hlt:i<args.length:=by rw[HLEN.out];exact hlt2
    obtain⟨y,hy⟩:∃ y,args[i]?=some y:=⟨args[i],Lg' hlt⟩
    obtain⟨b,hb⟩:∃ b,ls[i]?=some b:=⟨ls[i],Lg' hlt2⟩
    obtain⟨g,og,rfl,_,hg,_,_,hc⟩:=H6.out.row hlt;obtain⟨g5,og5,rfl,_,hg5,_,_,hc5⟩:=H5.out.row hlt2;rw[E5.out i b hb] at hc5;have y0:wr.cell? ⟨g5,og5+i,none⟩=some (vS b):=((f0.trans fr).cell (p:=⟨g5,og5+i,none⟩) hg5 (fun x=>by cases x)).trans (by have:=hc5 0 _ rfl;simpa using this);have hI:=HI.out;rw[rowL_at hb hy] at hI;have hyy:=E6.out i y hy;have hwy:=HW6.out i y hy;have hsy:=HS6.out i y hy;have hmy:=HM6.out i y hy;have hzy:=Gz hy
    generalize d6 i=di at *
    have hyw:=hyy.keep (w':=wr.drew) (ok':=ok) (Sh.of_fr ((f0.trans fr).drew) (fun b hb _=>⟨hb,fun x=>by cases x⟩))
    cases hyy with
    | @mk k2 a2 nm2 n2 s2 ls2 args2 v5 v6 _ _ r5 _ r6 _ =>
    obtain⟨A52,cc52,rfl⟩:=r5.form;obtain⟨A62,cc62,rfl⟩:=r6.form;clear r5 r6;have cX:=Hz (IH.out k2 a2 nm2 n2 s2 ls2 args2 A52 A62 cc52 cc62 wr.drew ok (by have:=HN.out;omega) hwy hsy hmy (HT6.out i _ hy).2 hyw);obtain⟨x0,x1,x2,x3,x4,x5,x6⟩:=Vs hg (f0.trans fr) hc;have htl:=(HT6.out i _ hy).1;have hbl:=HLs.out b (List.mem_of_getElem? hb)
    generalize txP (.mk k2 a2 nm2 n2 s2 ls2 args2)=t2 at *
    have q4:(i:Int)<(ls.length:Int):=by omega
    have HC:=Hz hc;have HD:=Hz (Fr.drew (Fr.refl [] wr));have hkeep5:∀ W,Fr [] wr W→W.cell? ⟨g5,og5+i,none⟩=some (vS b):=fun W hW=>(hW.cell (p:=⟨g5,og5+i,none⟩) (Nl' hg5 (f0.trans fr).size) (fun x=>by cases x)).trans y0
    have HK5:=Hz hkeep5
    have hJ:∀ M:LB,M=L++((if decide (i=0)=true then [] else [44,32])++(b++([32,61,32]++t2)))→M++G8 (decide (i+1=0)) (ls.drop (i+1)) (Gg (args.drop (i+1)))=R:=by
     intro M hM;rw[hM,← hI];simp
    have HJ:=Hz hJ;clear hc hc5 hy hb HI hI hwy hyw hzy hsy hmy hkeep5 hJ hg5;have z1:¬ 9223372036854775807<b.length+3:=by omega
    have z2:¬ 9223372036854775807<b.length+3+t2.length:=by omega
    have z3:¬ 9223372036854775807<L.length+1+(b.length+3+t2.length):=by omega
    have z4:¬ 9223372036854775807<L.length+1+2:=by omega
    have z5:¬ 9223372036854775807<L.length+1+2+(b.length+3+t2.length):=by omega
    by_cases hz:i=0
    ·have q5:¬ (0:Int)<(i:Int):=by omega
     have HZ:=Hz hz;clear hz;go_wp2_with fail
     go_region_held3 (fun w'=>w'.cell? ⟨T,5,none⟩=some (.slice (some ⟨g5,og5,none⟩) ls.length c5)∧w'.cell? ⟨T,6,none⟩=some (.slice (some ⟨g,og,none⟩) ls.length c6)∧w'.cell? ⟨g5,og5+i,none⟩=some (vS b)∧w'.cell? ⟨g,og+i * 7,none⟩=some (vI k2)∧w'.cell? ⟨g,og+i * 7+1,none⟩=some (vI a2)∧w'.cell? ⟨g,og+i * 7+2,none⟩=some (vS nm2)∧w'.cell? ⟨g,og+i * 7+3,none⟩=some (vI n2)∧w'.cell? ⟨g,og+i * 7+4,none⟩=some (vS s2)∧w'.cell? ⟨g,og+i * 7+5,none⟩=some (.slice A52 ls2.length cc52)∧w'.cell? ⟨g,og+i * 7+6,none⟩=some (.slice A62 args2.length cc62)) (first|go_keep|exact⟨l5,l6,y0,x0,x1,x2,x3,x4,x5,x6⟩) (((with_reducible refine cX.out.mono ?_);rintro e w3 ⟨rfl,f3⟩;obtain⟨⟨l0,l1,l2,l3,l4,l5,l6⟩,_⟩:=Aq ((HD.out.trans f3).keep q3 nE);have y0:=HK5.out _ (HD.out.trans f3);obtain⟨x0,x1,x2,x3,x4,x5,x6⟩:=Vs hg ((f0.trans fr).trans (HD.out.trans f3)) HC.out))
     go_wp2_with fail
     go_roundw
     case rel=>exact⟨i+1,L++(b++([32,61,32]++t2)),by simp[ByteArray.ext_iff,ByteArray.data_append],by go_num,by omega,Hz (HJ.out _ (by simp[HZ.out])),fr.trans (HD.out.trans f3)⟩
     case measure=>simp[intOf];omega
    ·have q5:(0:Int)<(i:Int):=by omega
     have HZ:=Hz hz;clear hz;go_wp2_with fail
     go_region_held3 (fun w'=>w'.cell? ⟨T,5,none⟩=some (.slice (some ⟨g5,og5,none⟩) ls.length c5)∧w'.cell? ⟨T,6,none⟩=some (.slice (some ⟨g,og,none⟩) ls.length c6)∧w'.cell? ⟨g5,og5+i,none⟩=some (vS b)∧w'.cell? ⟨g,og+i * 7,none⟩=some (vI k2)∧w'.cell? ⟨g,og+i * 7+1,none⟩=some (vI a2)∧w'.cell? ⟨g,og+i * 7+2,none⟩=some (vS nm2)∧w'.cell? ⟨g,og+i * 7+3,none⟩=some (vI n2)∧w'.cell? ⟨g,og+i * 7+4,none⟩=some (vS s2)∧w'.cell? ⟨g,og+i * 7+5,none⟩=some (.slice A52 ls2.length cc52)∧w'.cell? ⟨g,og+i * 7+6,none⟩=some (.slice A62 args2.length cc62)) (first|go_keep|exact⟨l5,l6,y0,x0,x1,x2,x3,x4,x5,x6⟩) (((with_reducible refine cX.out.mono ?_);rintro e w3 ⟨rfl,f3⟩;obtain⟨⟨l0,l1,l2,l3,l4,l5,l6⟩,_⟩:=Aq ((HD.out.trans f3).keep q3 nE);have y0:=HK5.out _ (HD.out.trans f3);obtain⟨x0,x1,x2,x3,x4,x5,x6⟩:=Vs hg ((f0.trans fr).trans (HD.out.trans f3)) HC.out))
     go_wp2_with fail
     go_roundw
     case rel=>exact⟨i+1,L++([44,32]++(b++([32,61,32]++t2))),by simp[ByteArray.ext_iff,ByteArray.data_append],by go_num,by omega,Hz (HJ.out _ (by simp[HZ.out])),fr.trans (HD.out.trans f3)⟩
     case measure=>simp[intOf];omega
   ·have hR:L=R:=by
     have:=HI.out;rw[List.drop_eq_nil_of_le (show ls.length≤i by omega),G8,List.append_nil] at this;exact this
    subst hR;clear HI;have q2:¬ (i:Int)<(ls.length:Int):=by omega
    go_wp2_with fail;go_ret;exact⟨by simp[ByteArray.ext_iff,ByteArray.data_append],f0.trans fr⟩
theorem pta_all:∀ N,PTA N
 | 0=>by intro _ _ _ _ _ _ _ _ _ _ _ _ _ h;exact absurd h (Nat.not_lt_zero _)
 | N+1=>pta_step N (pta_all N)
theorem ptsC_at:∀ (l:List (Int×Nat))(i:Nat)(q:Int×Nat),l[i]?=some q→(S6 l)[i * 2]?=some (vI q.1)∧(S6 l)[i * 2+1]?=some (vI (q.2:Int))
 | [],i,q,h=>by simp at h
 | p::l,0,q,h=>by
  simp at h;subst h
  exact⟨rfl,rfl⟩
 | p::l,i+1,q,h=>by
  have h':l[i]?=some q:=by simpa using h
  obtain⟨h1,h2⟩:=ptsC_at l i q h';rw[show S6 (p::l)=ptC p++S6 l from rfl,show(i+1)* 2=i * 2+2 by omega,show i * 2+2+1=i * 2+1+2 by omega];exact⟨h1,h2⟩
theorem Ko.row{B:Nat}{v:Value}{l:List (Int×Nat)}{w:World}(h:Ko B v l w):∃ A c,v = .slice A l.length c∧∀ (i:Nat)(q:Int×Nat),l[i]?=some q→∃ g,A=some ⟨g,0,none⟩∧w.cell? ⟨g,i * 2+1,none⟩=some (vI (q.2:Int)):=by
 rcases h.form with⟨rfl,rfl⟩| ⟨g,c,rfl,_,_,hc⟩
 ·exact⟨none,0,rfl,fun i q hq=>by simp at hq⟩
 ·refine⟨_,c,rfl,fun i q hq=>⟨g,rfl,?_⟩⟩;have k2:=hc _ _ (ptsC_at l i q hq).2
  have e:∀ j,(⟨g,0,none⟩:Addr).add j=⟨g,j,none⟩:=fun j=>by
   unfold Addr.add;split
   ·rename_i h;rw[h]
   ·simp
  rwa [e] at k2
theorem any_at{f:Int×Nat→Bool}{l:List (Int×Nat)}{i:Nat}{x:Int×Nat}(h:l[i]?=some x):(l.drop i).any f=(f x||(l.drop (i+1)).any f):=by
 obtain⟨hi,e⟩:=List.getElem?_eq_some_iff.1 h;rw[List.drop_eq_getElem_cons hi,List.any_cons,e]
theorem Rbounds_any(B:Nat)(v:Value)(l:List (Int×Nat))(w:World)(hO:Ko B v l w)(hl:l.length≤1000000):
  Calls prog 32 #[v] w fun e w'=>e = .returned (vI (bndL l))∧w=w':=by
 obtain⟨A,c,rfl,hrow⟩:=hO.row;have HROW:=Hz hrow;unfold bndL;clear hO hrow;by_cases h1:4096<l.length
 ·have q1:(4096:Int)<(l.length:Int):=by omega
  rw[if_pos h1];clear h1;go_enter func32,ntmps32;go_wp2_with fail;go_ret;exact⟨rfl,rfl⟩
 ·have q1:¬ (4096:Int)<(l.length:Int):=by omega
  rw[if_neg h1]
  obtain⟨R,hR⟩:∃ R,(l.any fun p=>decide (200<p.2))=R:=⟨_,rfl⟩
  rw[hR];have HR:Hid (((l.drop 0).any fun p=>decide (200<p.2))=R):=Hz (by rw[List.drop_zero];exact hR);clear h1 hR;go_enter func32,ntmps32;go_wp2_with fail
  go_loop [3] (fun iv=>∃ (i:Nat),iv=vI i∧i≤l.length∧Hid (((l.drop i).any fun p=>decide (200<p.2))=R)) (fun iv=>l.length-(intOf iv).toNat)
  case atStart=>exact⟨0,rfl,by omega,HR⟩
  case round =>
   obtain⟨i,rfl,hi,HI⟩:=hrel;clear HR;have q3:(0:Int)≤(i:Int):=by omega
   by_cases hlt:i<l.length
   ·obtain⟨y,hy⟩:∃ y,l[i]?=some y:=⟨l[i],Lg' hlt⟩
    obtain⟨g,rfl,hc⟩:=HROW.out i y hy;have hI:=HI.out;rw[any_at hy] at hI;have q2:(i:Int)<(l.length:Int):=by omega
    clear hy HI;by_cases hd:200<y.2
    ·have q4:(200:Int)<(y.2:Int):=by omega
     have hR:R=true:=by rw[← hI];simp[hd]
     subst hR;clear hI hd;go_wp2_with fail;go_ret;exact⟨rfl,rfl⟩
    ·have q4:¬ (200:Int)<(y.2:Int):=by omega
     have HJ:Hid (((l.drop (i+1)).any fun p=>decide (200<p.2))=R):=Hz (by rw[← hI];simp[hd]);clear hI hd;go_wp2_with fail
     go_round
     case rel=>exact⟨i+1,by go_num,by omega,HJ⟩
     case measure=>simp[intOf];omega
   ·have hR:R=false:=by
     have:=HI.out;rw[List.drop_eq_nil_of_le (show l.length≤i by omega)] at this;exact this.symm
    subst hR;clear HI;have q2:¬ (i:Int)<(l.length:Int):=by omega
    go_wp2_with fail;go_ret;exact⟨rfl,rfl⟩
theorem Rlong_any(t:LB)(w:World):
  Calls prog 35 #[vS t] w fun e w'=>e = .returned (.tuple #[.string ⟨(E0 true t).1.toArray⟩,vI (E0 true t).2])∧w=w':=by
 unfold E0;rw[if_pos rfl];by_cases h:4096<t.length
 ·rw[if_pos h];have q1:(4096:Int)<(t.length:Int):=by omega
  clear h;go_enter func35,ntmps35;go_wp2_with fail;go_ret2;exact⟨rfl,rfl⟩
 ·rw[if_neg h];have q1:¬ (4096:Int)<(t.length:Int):=by omega
  clear h;go_enter func35,ntmps35;go_wp2_with fail;go_ret2;exact⟨rfl,rfl⟩
theorem RPattern_any(k a:Int)(nm:LB)(n:Int)(s:LB)(ls:List LB)(args:List Ak)(A5 A6:Option Addr)(c5 c6:Nat)(w:World)(hx:Bd w (fun b=>b<w.heap.size) (.mk k a nm n s ls args) [vI k,vI a,vS nm,vI n,vS s,.slice A5 ls.length c5,.slice A6 args.length c6])(hW:WtP (.mk k a nm n s ls args))(hS:SwP (.mk k a nm n s ls args))(hz:szP (.mk k a nm n s ls args)≤1048576):
  Calls prog 15 #[.agg #[vI k,vI a,vS nm,vI n,vS s,.slice A5 ls.length c5,.slice A6 args.length c6]] w fun e w'=>e = .returned (.tuple #[.string ⟨(refPR (.mk k a nm n s ls args)).1.toArray⟩,vI (refPR (.mk k a nm n s ls args)).2])∧Fr [] w w':=by
 have f0:=(Fr.refl [] w).alloc (.cells #[vI k,vI a,vS nm,vI n,vS s,.slice A5 ls.length c5,.slice A6 args.length c6] 25);have q0:=Ad w (.cells #[vI k,vI a,vS nm,vI n,vS s,.slice A5 ls.length c5,.slice A6 args.length c6] 25);have HX:∀ W,Fr [] w W→Hid (Bd W (fun b=>b<W.heap.size) (.mk k a nm n s ls args) [vI k,vI a,vS nm,vI n,vS s,.slice A5 ls.length c5,.slice A6 args.length c6]):=fun W hf=>Hz (hx.keep (Sh.of_fr hf (fun b hb _=>⟨Nl' hb hf.size,fun x=>by cases x⟩)))
 have cP:=fun W hf=>Hz (ppa_all _ k a nm n s ls args (.slice A5 ls.length c5) (.slice A6 args.length c6) 1 1 4097 4097 W (Nat.lt_succ_self _) rfl (by decide) rfl (BdP.of_sz _ _ (Nat.lt_succ_self _) (by omega)) (HX W hf).out)
 have cM:=fun W hf=>Hz (pma_all _ k a nm n s ls args A5 A6 c5 c6 W (fun b=>b<W.heap.size) (Nat.lt_succ_self _) hW hS (HX W hf).out)
 have cT:=fun hm W hf=>Hz (pta_all _ k a nm n s ls args A5 A6 c5 c6 W (fun b=>b<W.heap.size) (Nat.lt_succ_self _) hW hS hm hz (HX W hf).out)
 have hlt:((Bz (.mk k a nm n s ls args) 1).take 4097).length≤1000000:=by rw[List.length_take];omega
 have key:(bndL ((Bz (.mk k a nm n s ls args) 1).take 4097)≠0∧refPR (.mk k a nm n s ls args)=([],bndL ((Bz (.mk k a nm n s ls args) 1).take 4097)))∨(bndL ((Bz (.mk k a nm n s ls args) 1).take 4097)=0∧Ct (.mk k a nm n s ls args)=false∧refPR (.mk k a nm n s ls args)=([],5))∨(bndL ((Bz (.mk k a nm n s ls args) 1).take 4097)=0∧Ct (.mk k a nm n s ls args)=true∧refPR (.mk k a nm n s ls args)=E0 true (txP (.mk k a nm n s ls args))):=by
  unfold refPR;by_cases h:bndL ((Bz (.mk k a nm n s ls args) 1).take 4097)=0
  ·rw[if_pos h]
   cases Ct (.mk k a nm n s ls args)with
   | false=>exact .inr (.inl ⟨h,rfl,rfl⟩)
   | true=>exact .inr (.inr ⟨h,rfl,rfl⟩)
  ·rw[if_neg h];exact .inl ⟨h,rfl⟩
 generalize refPR (.mk k a nm n s ls args)=RR at *
 generalize (Bz (.mk k a nm n s ls args) 1).take 4097=L at *
 obtain⟨b,hb⟩:∃ b,bndL L=b:=⟨_,rfl⟩
 have cB:=fun B v w1 O=>Hz (Rbounds_any B v L w1 O hlt)
 rw[hb] at cB key;clear hx hW hS hz HX hb hlt
 rcases key with⟨h0,rfl⟩| ⟨rfl,hm,rfl⟩| ⟨rfl,hm,rfl⟩
 ·have e0:(b==0)=false:=by rw[bN];exact h0
  clear cM cT h0;go_enter func15,ntmps15;go_wp2_with fail
  generalize w.alloc (.cells #[vI k,vI a,vS nm,vI n,vS s,.slice A5 ls.length c5,.slice A6 args.length c6] 25)=x at *
  generalize hT:w.heap.size=T at *
  obtain⟨⟨l0,l1,l2,l3,l4,l5,l6⟩,_⟩:=Aq q0;refine(cP _ f0).out.mono ?_;rintro e w1 ⟨v,rfl,O,f1⟩;have F:=f0.trans f1;clear l0 l1 l2 l3 l4 l5 l6;go_wp2_with fail;refine(cB _ _ _ O).out.mono ?_;rintro e w2 ⟨rfl,rfl⟩;go_wp2_with fail;go_ret2;exact⟨rfl,F⟩
 ·rw[hm] at cM;clear cT;go_enter func15,ntmps15;go_wp2_with fail
  generalize w.alloc (.cells #[vI k,vI a,vS nm,vI n,vS s,.slice A5 ls.length c5,.slice A6 args.length c6] 25)=x at *
  generalize hT:w.heap.size=T at *
  obtain⟨⟨l0,l1,l2,l3,l4,l5,l6⟩,_⟩:=Aq q0;refine(cP _ f0).out.mono ?_;rintro e w1 ⟨v,rfl,O,f1⟩;have q1:=f1.keep q0 nE;have F:=f0.trans f1;clear l0 l1 l2 l3 l4 l5 l6;go_wp2_with fail;refine(cB _ _ _ O).out.mono ?_;rintro e w2 ⟨rfl,rfl⟩;obtain⟨⟨l0,l1,l2,l3,l4,l5,l6⟩,_⟩:=Aq q1;clear O cB cP;go_wp2_with fail;refine(cM _ F).out.mono ?_;rintro e w3 ⟨rfl,f3⟩;go_wp2_with fail;go_ret2;exact⟨rfl,F.trans f3⟩
 ·rw[hm] at cM;have cT:=cT hm;have cL:=fun W=>Hz (Rlong_any (txP (.mk k a nm n s ls args)) W)
  generalize txP (.mk k a nm n s ls args)=t at *
  go_enter func15,ntmps15;go_wp2_with fail
  generalize w.alloc (.cells #[vI k,vI a,vS nm,vI n,vS s,.slice A5 ls.length c5,.slice A6 args.length c6] 25)=x at *
  generalize hT:w.heap.size=T at *
  obtain⟨⟨l0,l1,l2,l3,l4,l5,l6⟩,_⟩:=Aq q0;refine(cP _ f0).out.mono ?_;rintro e w1 ⟨v,rfl,O,f1⟩;have q1:=f1.keep q0 nE;have F:=f0.trans f1;clear l0 l1 l2 l3 l4 l5 l6;go_wp2_with fail;refine(cB _ _ _ O).out.mono ?_;rintro e w2 ⟨rfl,rfl⟩;obtain⟨⟨l0,l1,l2,l3,l4,l5,l6⟩,_⟩:=Aq q1;clear O cB cP;go_wp2_with fail;refine(cM _ F).out.mono ?_;rintro e w3 ⟨rfl,f3⟩;have q3:=f3.keep q1 nE;have F3:=F.trans f3;clear l0 l1 l2 l3 l4 l5 l6;obtain⟨⟨l0,l1,l2,l3,l4,l5,l6⟩,_⟩:=Aq q3;go_wp2_with fail;refine(cT _ F3).out.mono ?_;rintro e w4 ⟨rfl,f4⟩;go_wp2_with fail;refine(cL _).out.mono ?_;rintro e w5 ⟨rfl,rfl⟩;go_wp2_with fail;go_ret2;exact⟨rfl,F3.trans f4⟩
theorem ShowPatterns_walk(k1 a1:Int)(nm1:LB)(n1:Int)(s1:LB)(ls1:List LB)(args1:List Ak)(A51:Option Addr)(z5 c51:Nat)(A61:Option Addr)(z6 c61:Nat)(w:World)(hE:Dx w)(hx:Bd w (fun b=>b<w.heap.size) (.mk k1 a1 nm1 n1 s1 ls1 args1) [vI k1,vI a1,vS nm1,vI n1,vS s1,.slice A51 z5 c51,.slice A61 z6 c61])(hW:WtP (.mk k1 a1 nm1 n1 s1 ls1 args1)):
  Calls prog 3 #[.agg #[vI k1,vI a1,vS nm1,vI n1,vS s1,.slice A51 z5 c51,.slice A61 z6 c61]] w fun e w'=>e = .returned (.bool true)∧Fr [] w w':=by
 have hl:z5=ls1.length∧z6=args1.length:=by
  cases hx with
  | mk c5' c6' h5 e5 h6 e6=>exact⟨h5.len,h6.len⟩
 obtain⟨rfl,rfl⟩:=hl;have HE:=Hz hE;have cA:=fun w hE=>Hz (I3 w hE)
 have fb:=(Fr.refl [] w).alloc (.cells #[vI k1,vI a1,vS nm1,vI n1,vS s1,.slice A51 ls1.length c51,.slice A61 args1.length c61] 25);have HX:=Hz (hx.fr fb);have HW:=Hz hW;have q1:=Ad w (.cells #[vI k1,vI a1,vS nm1,vI n1,vS s1,.slice A51 ls1.length c51,.slice A61 args1.length c61] 25);have cL:=fun w hx=>Hz (Mu _ k1 a1 nm1 n1 s1 ls1 args1 A51 A61 c51 c61 65536 w (fun b=>b<w.heap.size) (Nat.lt_succ_self _) HW.out hx (by omega) (by omega))
 clear hE hx hW;go_enter func3,ntmps3;go_wp2_with fail
 generalize w.alloc (.cells #[vI k1,vI a1,vS nm1,vI n1,vS s1,.slice A51 ls1.length c51,.slice A61 args1.length c61] 25)=y1 at *
 generalize w.heap.size=T1 at *
 refine(cA _ (HE.out.fr fb)).out.mono ?_;rintro e w1 ⟨rfl,f1⟩;replace HX:=Hz (HX.out.fr f1);replace q1:=f1.keep q1 nE;have F1:=fb.trans f1;clear fb f1;obtain⟨⟨l0,l1,l2,l3,l4,l5,l6⟩,_⟩:=Aq q1;go_wp2_with fail;refine(cL _ HX.out).out.mono ?_;rintro e w2 ⟨rfl,f2⟩;replace HX:=Hz (HX.out.fr f2);replace q1:=f2.keep q1 nE;have F:=F1.trans f2;clear F1 f2 l0 l1 l2 l3 l4 l5 l6;obtain⟨⟨l0,l1,l2,l3,l4,l5,l6⟩,_⟩:=Aq q1;by_cases hlo:Dd (.mk k1 a1 nm1 n1 s1 ls1 args1) 65536≤0
 ·go_wp2_with fail;go_ret;exact⟨rfl,F⟩
 ·obtain⟨hsz,hsw⟩:=Mv _ 65536 HW.out (show 0<Dd (.mk k1 a1 nm1 n1 s1 ls1 args1) 65536 by omega) (by omega);have cS:=fun w hV hx=>Hz (Nf k1 a1 nm1 n1 s1 ls1 args1 A51 A61 c51 c61 w hV hx (by omega) hsw)
  have cR:=fun w hx=>Hz (RPattern_any k1 a1 nm1 n1 s1 ls1 args1 A51 A61 c51 c61 w hx HW.out hsw (by omega))
  rw[refPR_eq] at cR
  generalize Dd (.mk k1 a1 nm1 n1 s1 ls1 args1) 65536=Z at *
  clear hsz cL cA;go_wp2_with fail;refine(cS _ (HE.out.fr F) HX.out).out.mono ?_;rintro e w4 ⟨he,f4⟩
  obtain⟨t,g,hr⟩:∃ t g,Ij (.mk k1 a1 nm1 n1 s1 ls1 args1)=(t,g):=⟨_,_,rfl⟩
  rw[hr] at he cR;subst he;replace HX:=Hz (HX.out.fr f4);replace q1:=f4.keep q1 nE;replace F:=F.trans f4;clear f4 l0 l1 l2 l3 l4 l5 l6 cS hlo hr;obtain⟨⟨l0,l1,l2,l3,l4,l5,l6⟩,_⟩:=Aq q1;dsimp only at cR ⊢;go_wp2_with fail;refine(cR _ HX.out).out.mono ?_;rintro e w5 ⟨rfl,f5⟩;go_wp2_with fail;go_ret;exact⟨by simp,F.trans f5⟩
end
end Go.Proofs.YtabhpdhajajoiaaGreatDoor
