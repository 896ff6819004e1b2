/- A part of the proof: Vi, Vb3, Vl, Vha, Vj, Vf, Vm. -/
import Derived.BigQuiet
import Derived.Deep.DrawnRows
import Derived.Deep.RegionHeld3
import Derived.Test.YtlafbbnikgcdlaaGreatDoorKb2
import Derived.Test.YtlafbbnikgcdlaaGreatDoorKb9
namespace Go.Proofs.YtlafbbnikgcdlaaGreatDoor
open Go.RowKit
open _root_.Go.Proofs.Tryz
set_option linter.all false
set_option maxHeartbeats 16000000
set_option maxRecDepth 100000
variable{p:Prop}
open List renaming length_cons→Lc',length_append→La',getElem?_eq_getElem→Lg',mem_cons_self→Lm',length_nil→Ln',append_assoc→Ls'
open Nat renaming le_refl→Nr'
section
attribute [local go_sem ↓] Go.wp_at_zero Go.wp_at_succ
def IC1(w0:World)(ok:Nat→Prop)(P N:Nat)(k:Int):Prop:=∀ (a:Int)(nm:LB)(n:Int)(s:LB)(ls:List LB)(args:List Ad)(arms:List (Al×Ad))(A5 A6 A7:Option Addr)(c5 c6 c7:Nat)(rs:List (Nat×Obj))(l:LB)(wr:World),szE (.mk k a nm n s ls args arms)<N→SwE (.mk k a nm n s ls args arms)→
  Ak w0 ok (.mk k a nm n s ls args arms) [vI k,vI a,vS nm,vI n,vS s,.slice A5 ls.length c5,.slice A6 args.length c6,.slice A7 arms.length c7]→(∃ h,Cc k n ls.length=some h∧Ah h nm n s ls.length args.length arms.length=true)→WB w0 P rs l wr→l.length+(Bv k nm n (Bj args) (Dp arms)).length≤70368744177664 →
  Calls prog 89 #[.pointer (some ⟨P,0,none⟩),.agg #[vI k,vI a,vS nm,vI n,vS s,.slice A5 ls.length c5,.slice A6 args.length c6,.slice A7 arms.length c7]] wr (Sd w0 P rs (l++Bv k nm n (Bj args) (Dp arms)) (Bq k nm n ls (Er args)&&Ax args&&Bd arms))
theorem nn231(h:p:=by
 have hfa:n=0∧s=[]∧ls=[]∧args.length=1∧arms=[]:=by simpa [Ah,and_assoc] using hr
 obtain⟨rfl,rfl,rfl,t,rfl⟩:=hfa;clear hr;obtain⟨x,rfl⟩:=Ko t;clear t;have HV:=Hz hV;have hsz:szE (.mk 7 a nm 0 [] [] [x] [])=1+Bk [x]:=by simp[szE,B1]
 rw[hsz] at hN
 cases hx with
 | mk d5 d6 dp de h5 e5 h6 e6 h7 e7 e8 =>
 have HW:Hid (l++Gj [([102,117,110,32]++nm)++[32,45,62,32],[]] (Bj [x])=l++Bv 7 nm 0 (Bj [x]) (Dp [])):=Hz (by simp[Bv,Gj,Bj,opT]);rw[← La'] at hl;have HO:Hid ((Aw nm&&Ax [x])=(Bq 7 nm 0 [] (Er [x])&&Ax [x]&&Bd [])):=Hz (by simp[Bq,Bd])
 generalize l++Bv 7 nm 0 (Bj [x]) (Dp [])=M at *
 generalize (Bq 7 nm 0 [] (Er [x])&&Ax [x]&&Bd [])=O at *
 have cR:=fun w rz hb=>Hz (WB.row (wr:=w) (rs:=rz) ih h6 e6 oM hs5 sM hb [([102,117,110,32]++nm)++[32,45,62,32],[]] 2 HW.out hl sM sM)
 have kqq261:=@Hz _ @nn523;exact qq261):p:=h
theorem nn523(h:p:=by
 have hcat:=(show(⟨#[102,117,110,32]⟩++⟨nm.toArray⟩++⟨#[32,45,62,32]⟩:ByteArray)=⟨(([102,117,110,32]++nm)++[32,45,62,32]).toArray⟩ by rw[Ks [102,117,110,32] nm,Ks])
 cases hn:Aw nm with
 | false =>
  rw[hn] at cN HO;have hb0:=hb.new (.cells #[vI 7,vI a,vS nm,vI 0,vE,.slice A5 0 c5,.slice A6 1 c6,.slice A7 0 c7] 27)
  exact qq70
 | true =>
  rw[hn] at cN HO;have hb0:=hb.new (.cells #[vI 7,vI a,vS nm,vI 0,vE,.slice A5 0 c5,.slice A6 1 c6,.slice A7 0 c7] 27);exact qq57):p:=h
theorem inner_7(w0:World)(ok:Nat→Prop)(P N:Nat)(hV:E1 w0)(ih:EC w0 ok P N):IC1 w0 ok P (N+1) 7:=by
 have kqq80:=@Hz _ @nn231;exact qq80
theorem nn230(h:p:=by
 have kqq240:=@Hz _ @nn467;exact qq240):p:=h
theorem nn467(h:p:=by
 have hsz:szE (.mk 8 a [] 0 [] [] [x,y] [])=1+Bk [x,y]:=by simp[szE,B1]
 rw[hsz] at hN
 cases hx with
 | mk d5 d6 dp de h5 e5 h6 e6 h7 e7 e8 =>
 have HW:Hid (l++Gj [[],[32]] (Bj [x,y])=l++Bv 8 [] 0 (Bj [x,y]) (Dp [])):=Hz (by simp[Bv,Gj,Bj,opT]);rw[← La'] at hl;have HO:Hid (Ax [x,y]=(Bq 8 [] 0 [] (Er [x,y])&&Ax [x,y]&&Bd [])):=Hz (by simp[Bq,Bd])
 generalize l++Bv 8 [] 0 (Bj [x,y]) (Dp [])=M at *
 generalize (Bq 8 [] 0 [] (Er [x,y])&&Ax [x,y]&&Bd [])=O at *
 have cR:=fun w rz hb=>Hz (WB.row (wr:=w) (rs:=rz) ih h6 e6 oM hs5 sM hb [[],[32]] 2 HW.out hl sM sM)
 clear h5 e5 h6 e6 h7 e7 e8 hN hs5 hl hsz ih;have hb0:=hb.new (.cells #[vI 8,vI a,vE,vI 0,vE,.slice A5 0 c5,.slice A6 2 c6,.slice A7 0 c7] 27);have hq:(wr.alloc (.cells #[vI 8,vI a,vE,vI 0,vE,.slice A5 0 c5,.slice A6 2 c6,.slice A7 0 c7] 27)).heap.size=wr.heap.size+1:=by simp
 exact qq50):p:=h
theorem inner_8(w0:World)(ok:Nat→Prop)(P N:Nat)(hV:E1 w0)(ih:EC w0 ok P N):IC1 w0 ok P (N+1) 8:=by
 have kqq80:=@Hz _ @nn230;exact qq80
theorem nn229(h:p:=by
 have hfa:n=0∧s=[]∧ls=[]∧args.length=2∧arms=[]:=by simpa [Ah,and_assoc] using hr
 obtain⟨rfl,rfl,rfl,t,rfl⟩:=hfa;clear hr;obtain⟨x,y,rfl⟩:=Kk t;clear t;have HV:=Hz hV;have hsz:szE (.mk 9 a nm 0 [] [] [x,y] [])=1+Bk [x,y]:=by simp[szE,B1]
 rw[hsz] at hN
 cases hx with
 | mk d5 d6 dp de h5 e5 h6 e6 h7 e7 e8 =>
 have HW:Hid (l++Gj [([108,101,116,32]++nm)++[32,61,32],[32,105,110,32]] (Bj [x,y])=l++Bv 9 nm 0 (Bj [x,y]) (Dp [])):=Hz (by simp[Bv,Gj,Bj,opT]);rw[← La'] at hl;have HO:Hid ((Aw nm&&Ax [x,y])=(Bq 9 nm 0 [] (Er [x,y])&&Ax [x,y]&&Bd [])):=Hz (by simp[Bq,Bd])
 generalize l++Bv 9 nm 0 (Bj [x,y]) (Dp [])=M at *
 generalize (Bq 9 nm 0 [] (Er [x,y])&&Ax [x,y]&&Bd [])=O at *
 have cR:=fun w rz hb=>Hz (WB.row (wr:=w) (rs:=rz) ih h6 e6 oM hs5 sM hb [([108,101,116,32]++nm)++[32,61,32],[32,105,110,32]] 2 HW.out hl sM sM)
 have kqq261:=@Hz _ @nn524;exact qq261):p:=h
theorem nn524(h:p:=by
 have hcat:=(show(⟨#[108,101,116,32]⟩++⟨nm.toArray⟩++⟨#[32,61,32]⟩:ByteArray)=⟨(([108,101,116,32]++nm)++[32,61,32]).toArray⟩ by rw[Ks [108,101,116,32] nm,Ks])
 cases hn:Aw nm with
 | false =>
  rw[hn] at cN HO;have hb0:=hb.new (.cells #[vI 9,vI a,vS nm,vI 0,vE,.slice A5 0 c5,.slice A6 2 c6,.slice A7 0 c7] 27)
  exact qq70
 | true =>
  rw[hn] at cN HO;have hb0:=hb.new (.cells #[vI 9,vI a,vS nm,vI 0,vE,.slice A5 0 c5,.slice A6 2 c6,.slice A7 0 c7] 27);exact qq57):p:=h
theorem inner_9(w0:World)(ok:Nat→Prop)(P N:Nat)(hV:E1 w0)(ih:EC w0 ok P N):IC1 w0 ok P (N+1) 9:=by
 have kqq80:=@Hz _ @nn229;exact qq80
theorem nn228(h:p:=by
 have hfa:nm=[]∧n=0∧s=[]∧ls=[]∧args.length=3∧arms=[]:=by simpa [Ah,and_assoc] using hr
 obtain⟨rfl,rfl,rfl,rfl,t,rfl⟩:=hfa;clear hr;obtain⟨x,y,z,rfl⟩:=trio_of t;clear t;have HV:=Hz hV;have hsz:szE (.mk 11 a [] 0 [] [] [x,y,z] [])=1+Bk [x,y,z]:=by simp[szE,B1]
 rw[hsz] at hN
 cases hx with
 | mk d5 d6 dp de h5 e5 h6 e6 h7 e7 e8 =>
 have HW:Hid (l++Gj [[105,102,32],[32,116,104,101,110,32],[32,101,108,115,101,32]] (Bj [x,y,z])=l++Bv 11 [] 0 (Bj [x,y,z]) (Dp [])):=Hz (by simp[Bv,Gj,Bj,opT]);rw[← La'] at hl;have HO:Hid (Ax [x,y,z]=(Bq 11 [] 0 [] (Er [x,y,z])&&Ax [x,y,z]&&Bd [])):=Hz (by simp[Bq,Bd])
 generalize l++Bv 11 [] 0 (Bj [x,y,z]) (Dp [])=M at *
 generalize (Bq 11 [] 0 [] (Er [x,y,z])&&Ax [x,y,z]&&Bd [])=O at *
 have cR:=fun w rz hb=>Hz (WB.row (wr:=w) (rs:=rz) ih h6 e6 oM hs5 sM hb [[105,102,32],[32,116,104,101,110,32],[32,101,108,115,101,32]] 3 HW.out hl sM sM)
 clear h5 e5 h6 e6 h7 e7 e8 hN hs5 hl hsz ih;have hb0:=hb.new (.cells #[vI 11,vI a,vE,vI 0,vE,.slice A5 0 c5,.slice A6 3 c6,.slice A7 0 c7] 27);have hq:(wr.alloc (.cells #[vI 11,vI a,vE,vI 0,vE,.slice A5 0 c5,.slice A6 3 c6,.slice A7 0 c7] 27)).heap.size=wr.heap.size+1:=by simp
 exact qq50):p:=h
theorem inner_11(w0:World)(ok:Nat→Prop)(P N:Nat)(hV:E1 w0)(ih:EC w0 ok P N):IC1 w0 ok P (N+1) 11:=by
 have kqq80:=@Hz _ @nn228;exact qq80
theorem nn227(h:p:=by
 have hfa:n=0∧s=[]∧ls=[]∧args.length=1∧arms=[]:=by simpa [Ah,and_assoc] using hr
 obtain⟨rfl,rfl,rfl,t,rfl⟩:=hfa;clear hr;obtain⟨x,rfl⟩:=Ko t;clear t;have HV:=Hz hV;have hsz:szE (.mk 15 a nm 0 [] [] [x] [])=1+Bk [x]:=by simp[szE,B1]
 rw[hsz] at hN
 cases hx with
 | mk d5 d6 dp de h5 e5 h6 e6 h7 e7 e8 =>
 have HW:Hid (l++Gj [([35]++nm)++[32]] (Bj [x])=l++Bv 15 nm 0 (Bj [x]) (Dp [])):=Hz (by simp[Bv,Gj,Bj,opT]);rw[← La'] at hl;have HO:Hid ((Eg nm&&Ax [x])=(Bq 15 nm 0 [] (Er [x])&&Ax [x]&&Bd [])):=Hz (by simp[Bq,Bd])
 generalize l++Bv 15 nm 0 (Bj [x]) (Dp [])=M at *
 generalize (Bq 15 nm 0 [] (Er [x])&&Ax [x]&&Bd [])=O at *
 have cR:=fun w rz hb=>Hz (WB.row (wr:=w) (rs:=rz) ih h6 e6 oM hs5 sM hb [([35]++nm)++[32]] 1 HW.out hl sM sM)
 clear h5 e5 h6 e6 h7 e7 e8 hN hs5 hl hsz ih;have hnz:(⟨nm.toArray⟩:ByteArray).size≤65536:=by simpa [ByteArray.size] using hs1
 have cN:=fun w hE=>Hz (Nf ⟨nm.toArray⟩ oM w hE)
 rw[(show(⟨nm.toArray⟩:ByteArray).data.toList=nm from rfl)] at cN
 have hcat:=(show(⟨#[35]⟩++⟨nm.toArray⟩++⟨#[32]⟩:ByteArray)=⟨(([35]++nm)++[32]).toArray⟩ by rw[Ks [35] nm,Ks])
 cases hn:Eg nm with
 | false =>
  rw[hn] at cN HO;have hb0:=hb.new (.cells #[vI 15,vI a,vS nm,vI 0,vE,.slice A5 0 c5,.slice A6 1 c6,.slice A7 0 c7] 27)
  exact qq70
 | true =>
  rw[hn] at cN HO;have hb0:=hb.new (.cells #[vI 15,vI a,vS nm,vI 0,vE,.slice A5 0 c5,.slice A6 1 c6,.slice A7 0 c7] 27);exact qq57):p:=h
theorem inner_15(w0:World)(ok:Nat→Prop)(P N:Nat)(hV:E1 w0)(ih:EC w0 ok P N):IC1 w0 ok P (N+1) 15:=by
 have kqq80:=@Hz _ @nn227;exact qq80
theorem nn226(h:p:=by
 have hfa:nm=[]∧n=0∧s=[]∧ls=[]∧args.length=1∧arms=[]:=by simpa [Ah,and_assoc] using hr
 obtain⟨rfl,rfl,rfl,rfl,t,rfl⟩:=hfa;clear hr;obtain⟨x,rfl⟩:=Ko t;clear t;have HV:=Hz hV;have hsz:szE (.mk 18 a [] 0 [] [] [x] [])=1+Bk [x]:=by simp[szE,B1]
 rw[hsz] at hN
 cases hx with
 | mk d5 d6 dp de h5 e5 h6 e6 h7 e7 e8 =>
 have HW:Hid (l++Gj [[114,97,105,115,101,32]] (Bj [x])=l++Bv 18 [] 0 (Bj [x]) (Dp [])):=Hz (by simp[Bv,Gj,Bj,opT]);rw[← La'] at hl;have HO:Hid (Ax [x]=(Bq 18 [] 0 [] (Er [x])&&Ax [x]&&Bd [])):=Hz (by simp[Bq,Bd])
 generalize l++Bv 18 [] 0 (Bj [x]) (Dp [])=M at *
 generalize (Bq 18 [] 0 [] (Er [x])&&Ax [x]&&Bd [])=O at *
 have cR:=fun w rz hb=>Hz (WB.row (wr:=w) (rs:=rz) ih h6 e6 oM hs5 sM hb [[114,97,105,115,101,32]] 1 HW.out hl sM sM)
 clear h5 e5 h6 e6 h7 e7 e8 hN hs5 hl hsz ih;have hb0:=hb.new (.cells #[vI 18,vI a,vE,vI 0,vE,.slice A5 0 c5,.slice A6 1 c6,.slice A7 0 c7] 27);have hq:(wr.alloc (.cells #[vI 18,vI a,vE,vI 0,vE,.slice A5 0 c5,.slice A6 1 c6,.slice A7 0 c7] 27)).heap.size=wr.heap.size+1:=by simp
 exact qq50):p:=h
theorem inner_18(w0:World)(ok:Nat→Prop)(P N:Nat)(hV:E1 w0)(ih:EC w0 ok P N):IC1 w0 ok P (N+1) 18:=by
 have kqq80:=@Hz _ @nn226;exact qq80
theorem nn225(h:p:=by
 have kqq240:=@Hz _ @nn468;exact qq240):p:=h
theorem nn468(h:p:=by
 have hsz:szE (.mk 20 a [] 0 [] [] [x,y] [])=1+Bk [x,y]:=by simp[szE,B1]
 rw[hsz] at hN
 cases hx with
 | mk d5 d6 dp de h5 e5 h6 e6 h7 e7 e8 =>
 have HW:Hid (l++Gj [[],[59,32]] (Bj [x,y])=l++Bv 20 [] 0 (Bj [x,y]) (Dp [])):=Hz (by simp[Bv,Gj,Bj,opT]);rw[← La'] at hl;have HO:Hid (Ax [x,y]=(Bq 20 [] 0 [] (Er [x,y])&&Ax [x,y]&&Bd [])):=Hz (by simp[Bq,Bd])
 generalize l++Bv 20 [] 0 (Bj [x,y]) (Dp [])=M at *
 generalize (Bq 20 [] 0 [] (Er [x,y])&&Ax [x,y]&&Bd [])=O at *
 have cR:=fun w rz hb=>Hz (WB.row (wr:=w) (rs:=rz) ih h6 e6 oM hs5 sM hb [[],[59,32]] 2 HW.out hl sM sM)
 clear h5 e5 h6 e6 h7 e7 e8 hN hs5 hl hsz ih;have hb0:=hb.new (.cells #[vI 20,vI a,vE,vI 0,vE,.slice A5 0 c5,.slice A6 2 c6,.slice A7 0 c7] 27);have hq:(wr.alloc (.cells #[vI 20,vI a,vE,vI 0,vE,.slice A5 0 c5,.slice A6 2 c6,.slice A7 0 c7] 27)).heap.size=wr.heap.size+1:=by simp
 exact qq50):p:=h
theorem inner_20(w0:World)(ok:Nat→Prop)(P N:Nat)(hV:E1 w0)(ih:EC w0 ok P N):IC1 w0 ok P (N+1) 20:=by
 have kqq80:=@Hz _ @nn225;exact qq80
theorem nn224(h:p:=by
 have kqq240:=@Hz _ @nn469;exact qq240):p:=h
theorem nn469(h:p:=by
 have hsz:szE (.mk 21 a [] 0 [] [] [x,y] [])=1+Bk [x,y]:=by simp[szE,B1]
 rw[hsz] at hN
 cases hx with
 | mk d5 d6 dp de h5 e5 h6 e6 h7 e7 e8 =>
 have HW:Hid (l++Gj [[],[32,38,38,32]] (Bj [x,y])=l++Bv 21 [] 0 (Bj [x,y]) (Dp [])):=Hz (by simp[Bv,Gj,Bj,opT]);rw[← La'] at hl;have HO:Hid (Ax [x,y]=(Bq 21 [] 0 [] (Er [x,y])&&Ax [x,y]&&Bd [])):=Hz (by simp[Bq,Bd])
 generalize l++Bv 21 [] 0 (Bj [x,y]) (Dp [])=M at *
 generalize (Bq 21 [] 0 [] (Er [x,y])&&Ax [x,y]&&Bd [])=O at *
 have cR:=fun w rz hb=>Hz (WB.row (wr:=w) (rs:=rz) ih h6 e6 oM hs5 sM hb [[],[32,38,38,32]] 2 HW.out hl sM sM)
 clear h5 e5 h6 e6 h7 e7 e8 hN hs5 hl hsz ih;have hb0:=hb.new (.cells #[vI 21,vI a,vE,vI 0,vE,.slice A5 0 c5,.slice A6 2 c6,.slice A7 0 c7] 27);have hq:(wr.alloc (.cells #[vI 21,vI a,vE,vI 0,vE,.slice A5 0 c5,.slice A6 2 c6,.slice A7 0 c7] 27)).heap.size=wr.heap.size+1:=by simp
 exact qq50):p:=h
theorem inner_21(w0:World)(ok:Nat→Prop)(P N:Nat)(hV:E1 w0)(ih:EC w0 ok P N):IC1 w0 ok P (N+1) 21:=by
 have kqq80:=@Hz _ @nn224;exact qq80
theorem nn223(h:p:=by
 have kqq240:=@Hz _ @nn470;exact qq240):p:=h
theorem nn470(h:p:=by
 have hsz:szE (.mk 22 a [] 0 [] [] [x,y] [])=1+Bk [x,y]:=by simp[szE,B1]
 rw[hsz] at hN
 cases hx with
 | mk d5 d6 dp de h5 e5 h6 e6 h7 e7 e8 =>
 have HW:Hid (l++Gj [[],[32,124,124,32]] (Bj [x,y])=l++Bv 22 [] 0 (Bj [x,y]) (Dp [])):=Hz (by simp[Bv,Gj,Bj,opT]);rw[← La'] at hl;have HO:Hid (Ax [x,y]=(Bq 22 [] 0 [] (Er [x,y])&&Ax [x,y]&&Bd [])):=Hz (by simp[Bq,Bd])
 generalize l++Bv 22 [] 0 (Bj [x,y]) (Dp [])=M at *
 generalize (Bq 22 [] 0 [] (Er [x,y])&&Ax [x,y]&&Bd [])=O at *
 have cR:=fun w rz hb=>Hz (WB.row (wr:=w) (rs:=rz) ih h6 e6 oM hs5 sM hb [[],[32,124,124,32]] 2 HW.out hl sM sM)
 clear h5 e5 h6 e6 h7 e7 e8 hN hs5 hl hsz ih;have hb0:=hb.new (.cells #[vI 22,vI a,vE,vI 0,vE,.slice A5 0 c5,.slice A6 2 c6,.slice A7 0 c7] 27);have hq:(wr.alloc (.cells #[vI 22,vI a,vE,vI 0,vE,.slice A5 0 c5,.slice A6 2 c6,.slice A7 0 c7] 27)).heap.size=wr.heap.size+1:=by simp
 exact qq50):p:=h
theorem inner_22(w0:World)(ok:Nat→Prop)(P N:Nat)(hV:E1 w0)(ih:EC w0 ok P N):IC1 w0 ok P (N+1) 22:=by
 have kqq80:=@Hz _ @nn223;exact qq80
theorem Pl(h:Lm)(k a:Int)(nm:LB)(n:Int)(s:LB)(A5 A6 A7:Option Addr)(nl na ma c5 c6 c7:Nat)(w:World):
  Calls prog 81 #[h.v,.agg #[vI k,vI a,vS nm,vI n,vS s,.slice A5 nl c5,.slice A6 na c6,.slice A7 ma c7]] w fun e w'=>e = .returned (.bool (Ah h nm n s nl na ma))∧Fr [] w w':=by
 obtain⟨b1,b2,b3,b4,m,b6⟩:=h;unfold Lm.v;dsimp only;have m0:¬ (m:Int)<0:=by omega
 cases b1 with
 | true =>
  exact qq7
 | false =>
  by_cases t0:nm=[]
  ·subst t0;exact qq7
  ·have e0:(nm==[])=false:=by rw[bN];exact t0
   exact qq66
theorem Tr{w0 W:World}{g o:Nat}(hg:g<w0.heap.size)(hf:Fr [] w0 W){v0 v1 v2 v3 v4 v5 v6 v7:Value}(hc:∀ (j:Nat)(v:Value),[v0,v1,v2,v3,v4,v5,v6,v7][j]?=some v→w0.cell? ⟨g,o+j,none⟩=some v):
  W.cell? ⟨g,o,none⟩=some v0∧W.cell? ⟨g,o+1,none⟩=some v1∧W.cell? ⟨g,o+2,none⟩=some v2∧W.cell? ⟨g,o+3,none⟩=some v3∧W.cell? ⟨g,o+4,none⟩=some v4∧W.cell? ⟨g,o+5,none⟩=some v5∧W.cell? ⟨g,o+6,none⟩=some v6∧W.cell? ⟨g,o+7,none⟩=some v7:=by
 have h:∀ (j:Nat) (v:Value),[v0,v1,v2,v3,v4,v5,v6,v7][j]?=some v→W.cell? ⟨g,o+j,none⟩=some v:=fun j v hv=>cellAt hg (hc j v hv) hf
 exact⟨h 0 _ rfl,h 1 _ rfl,h 2 _ rfl,h 3 _ rfl,h 4 _ rfl,h 5 _ rfl,h 6 _ rfl,h 7 _ rfl⟩
theorem nn148(h:p:=by
 go_simp;refine(must_no _).mono ?_;rintro e w4 ⟨rfl,f4⟩;go_simp;exact⟨rfl,Sd.gave (by rw[HO.out,z7];rfl) (hb0.frame.trans f4)⟩):p:=h
theorem nn149(h:p:=by
 go_simp;refine(must_no _).mono ?_;rintro e w4 ⟨rfl,f4⟩;go_simp;exact⟨rfl,Sd.gave (by rw[HO.out];rfl) (hb0.frame.trans f4)⟩):p:=h
theorem nn235(h:p:=by
 have kqq328:=@Hz _ @nn615;exact qq328):p:=h
theorem nn236(h:p:=by
 have kqq48:=@Hz _ @nn148;exact qq48):p:=h
theorem nn455(h:p:=by
 go_simp;refine(must_yes _).mono ?_;rintro e w5 ⟨rfl,rfl⟩;go_simp;refine hK.out _ _ ?_ (fun hHeld=>?_)
 ·exact qq119
 clear hK K
 try simp only[Act.put,sX]
 refine wpAnyH_done kR ?_ _;replace HW:=Hz (HW.out rfl rfl);replace CI:=Hz (CI.out rfl rfl);replace CW:=Hz (CW.out rfl rfl);replace HO:Hid (O=(O1&&O2)):=Hz (by rw[HO.out];rfl);replace hb:=hb0;clear hb0 f2 f3 q0 cF cR cN hHeld;go_wp2_with fail;refine(hb.add3 [108,101,116,32,114,101,99,32] nm [32,61,32] _ (by have:=Bb HW.out HL.out;omega)).mono ?_;rintro e w6 ⟨rfl,hb⟩;have HW1:=Hz (Ba HW.out);clear l0 l1 l2 l3 l4 l5 l6 l7 x0 x1 x2 x3 x4 x5 x6 x7;obtain⟨⟨l0,l1,l2,l3,l4,l5,l6,l7⟩,_⟩:=Ac (hb.at (Lm' ..));obtain⟨x0,x1,x2,x3,x4,x5,x6,x7⟩:=Tr HG.out hb.frame HC.out;go_wp2_with fail;refine(CI.out _ _ _ hb (by have:=Bb HW1.out HL.out;omega)).mono ?_;rintro e w7 (⟨hok1,rfl,hb⟩| ⟨hok1,rfl,hf⟩)
 ·have HW2:=Hz (Ba HW1.out);clear l0 l1 l2 l3 l4 l5 l6 l7 x0 x1 x2 x3 x4 x5 x6 x7;obtain⟨⟨l0,l1,l2,l3,l4,l5,l6,l7⟩,_⟩:=Ac (hb.at (Lm' ..));obtain⟨x0,x1,x2,x3,x4,x5,x6,x7⟩:=Tr HG.out hb.frame HC.out;have hc7:(2:Int)≤(c6:Int):=by omega
  go_wp2_with fail;refine(CW.out _ _ _ hb HW2.out).mono ?_;rintro e w8 (⟨hok,rfl,hb⟩| ⟨hok,rfl,hf⟩)
  ·go_wp2_with fail
   go_end0
   exact Sd.done (by rw[HO.out,hok1,hok];rfl) rfl hb.drop
  ·go_wp2_with fail;exact⟨rfl,Sd.gave (by rw[HO.out,hok];simp) hf⟩
 ·go_wp2_with fail;exact⟨rfl,Sd.gave (by rw[HO.out,hok1];rfl) hf⟩):p:=h
theorem nn456(h:p:=by
 go_simp;refine(must_no _).mono ?_;rintro e w4 ⟨rfl,f4⟩;go_simp;exact⟨rfl,Sd.gave (by rw[HO.out];simp) (hb0.frame.trans f4)⟩):p:=h
theorem nn615(h:p:=by
 refine tk1 12 (oi:={ dst:=some 63,op:=_,type:=_,pos:=_,after:=_,guard:=_ }) (v:=?_) rfl rF ?_ ?_
 rotate_left
 ·exact qq27
 try simp only[Act.put,sX]
 refine tk1 13 (oi:={ dst:=some 64,op:=_,type:=_,pos:=_,after:=_,guard:=_ }) (v:=?_) rfl rF ?_ ?_
 rotate_left
 ·exact qq27
 try simp only[Act.put,sX]
 refine tk1 14 (oi:={ dst:=some 65,op:=_,type:=_,pos:=_,after:=_,guard:=_ }) (v:=?_) rfl rF ?_ ?_
 rotate_left
 ·exact qq27
 try simp only[Act.put,sX]
 refine tk1 15 (oi:={ dst:=some 66,op:=_,type:=_,pos:=_,after:=_,guard:=_ }) (v:=?_) rfl rF ?_ ?_
 rotate_left
 ·exact qq27
 try simp only[Act.put,sX]
 refine tk1 17 (oi:={ dst:=some 68,op:=_,type:=_,pos:=_,after:=_,guard:=_ }) (v:=?_) rfl rF ?_ ?_
 rotate_left
 ·exact qq27
 try simp only[Act.put,sX]
 refine tk1 18 (oi:={ dst:=some 69,op:=_,type:=_,pos:=_,after:=_,guard:=_ }) (v:=?_) rfl rF ?_ ?_
 rotate_left
 ·exact qq27
 try simp only[Act.put,sX]
 refine tk1 19 (oi:={ dst:=some 70,op:=_,type:=_,pos:=_,after:=_,guard:=_ }) (v:=?_) rfl rF ?_ ?_
 rotate_left
 ·exact qq27
 try simp only[Act.put,sX]
 refine tk1 20 (oi:={ dst:=some 71,op:=_,type:=_,pos:=_,after:=_,guard:=_ }) (v:=?_) rfl rF ?_ ?_
 rotate_left
 ·exact qq27
 try simp only[Act.put,sX]
 refine tkc 16 (oi:={ dst:=some 67,op:=_,type:=_,pos:=_,after:=_,guard:=_ }) rfl (fun K hK=>?_);go_simp;refine(cF _).out.mono ?_;rintro e w3 ⟨rfl,f3⟩;go_simp;replace q0:=f3.keep q0 nE;replace hb0:=hb0.fr f3;clear l0 l1 l2 l3 l4 l5 l6 l7 x0 x1 x2 x3 x4 x5 x6 x7 hHeld;obtain⟨⟨l0,l1,l2,l3,l4,l5,l6,l7⟩,_⟩:=Ac q0;obtain⟨x0,x1,x2,x3,x4,x5,x6,x7⟩:=Tr HG.out hb0.frame HC.out;refine hK.out _ _ ?_ (fun hHeld=>?_)
 ·exact qq119
 clear hK K
 try simp only[Act.put,sX]
 refine tkc 21 (oi:={ dst:=some 72,op:=_,type:=_,pos:=_,after:=_,guard:=_ }) rfl (fun K hK=>?_);go_simp;refine(cR _).out.mono ?_;rintro e w4 ⟨rfl,f4⟩;go_simp;replace q0:=f4.keep q0 nE;replace hb0:=hb0.fr f4;clear l0 l1 l2 l3 l4 l5 l6 l7 x0 x1 x2 x3 x4 x5 x6 x7 hHeld;obtain⟨⟨l0,l1,l2,l3,l4,l5,l6,l7⟩,_⟩:=Ac q0;obtain⟨x0,x1,x2,x3,x4,x5,x6,x7⟩:=Tr HG.out hb0.frame HC.out
 cases rb with
 | false =>
  refine hK.out _ _ ?_ (fun hHeld=>?_)
  ·exact qq119
  clear hK K;have kqq237:=@Hz _ @nn456
  exact qq237
 | true =>
 refine hK.out _ _ ?_ (fun hHeld=>?_)
 ·exact qq119
 clear hK K;have kqq237:=@Hz _ @nn455;exact qq237):p:=h
theorem rec_any(w0:World)(P:Nat)(hV:E1 w0)(a:Int)(nm:LB)(A5 A7:Option Addr)(c5 c6 c7:Nat)(k2 a2:Int)(nm2:LB)(n2:Int)(s2:LB)(ls2:List LB)(args2:List Ad)(arms2:List (Al×Ad))(A52 A62 A72:Option Addr)(c52 c62 c72:Nat)(g o:Nat)(rs:List (Nat×Obj))(l M:LB)(wr:World)(hs1:nm.length≤65536)(hb:WB w0 P rs l wr)(hg:g<w0.heap.size)(O O1 O2:Bool)(T1 T2:LB)(hO:O=(Aw nm&&(k2==7)&&Ah ⟨true,false,false,false,1,false⟩ nm2 n2 s2 ls2.length args2.length arms2.length&&O1&&O2))(hW:k2=7→Ah ⟨true,false,false,false,1,false⟩ nm2 n2 s2 ls2.length args2.length arms2.length=true→l++(([108,101,116,32,114,101,99,32]++(nm++[32,61,32]))++(T1++T2))=M)(hL:M.length≤70368744177664)
  (hc:∀ (j:Nat) (v:Value),[vI k2,vI a2,vS nm2,vI n2,vS s2,.slice A52 ls2.length c52,.slice A62 args2.length c62,.slice A72 arms2.length c72][j]?=some v→w0.cell? ⟨g,o+j,none⟩=some v)
  (cI:k2=7→Ah ⟨true,false,false,false,1,false⟩ nm2 n2 s2 ls2.length args2.length arms2.length=true→∀ (w:World) (rz:List (Nat×Obj)) (l':LB),WB w0 P rz l' w→l'.length+T1.length≤70368744177664→Calls prog 89 #[.pointer (some ⟨P,0,none⟩),.agg #[vI 7,vI a2,vS nm2,vI n2,vS s2,.slice A52 ls2.length c52,.slice A62 args2.length c62,.slice A72 arms2.length c72]] w (Sd w0 P rz (l'++T1) O1))
  (cW:k2=7→Ah ⟨true,false,false,false,1,false⟩ nm2 n2 s2 ls2.length args2.length arms2.length=true→∀ (w:World) (rz:List (Nat×Obj)) (l':LB),WB w0 P rz l' w→l'++T2=M→Calls prog 114 #[.pointer (some ⟨P,0,none⟩),.slice (some ⟨g,o+8,none⟩) 1 (c6-1),.slice (some ⟨w.heap.size,0,none⟩) 1 1] (w.alloc (.cells #[.string ⟨#[32,105,110,32]⟩] 9)) (Sd w0 P rz M O2)) (hc6:2≤c6):
  Calls prog 89 #[.pointer (some ⟨P,0,none⟩),.agg #[vI 10,vI a,vS nm,vI 0,vE,.slice A5 0 c5,.slice (some ⟨g,o,none⟩) 2 c6,.slice A7 0 c7]] wr (Sd w0 P rs M O):=by
 have HV:=Hz hV;have HG:=Hz hg;have HC:=Hz hc;have hnz:(⟨nm.toArray⟩:ByteArray).size≤65536:=by simpa [ByteArray.size] using hs1
 have cN:=fun w hE=>Hz (Fx ⟨nm.toArray⟩ oM w hE)
 clear hg hc hV;rw[(show(⟨nm.toArray⟩:ByteArray).data.toList=nm from rfl)] at cN;have cF:=fun W=>Hz (Me 7 a2 nm2 n2 s2 A52 A62 A72 ls2.length args2.length arms2.length c52 c62 c72 ⟨true,false,false,false,1,false⟩ (by simp[Cc]) W)
 have cR:=fun W=>Hz (Pl ⟨true,false,false,false,1,false⟩ 7 a2 nm2 n2 s2 A52 A62 A72 ls2.length args2.length arms2.length c52 c62 c72 W)
 generalize Aw nm=nb at *
 generalize Ah ⟨true,false,false,false,1,false⟩ nm2 n2 s2 ls2.length args2.length arms2.length=rb at *
 have HO:=Hz hO;have HW:=Hz hW;have HL:=Hz hL;have CI:=Hz cI;have CW:=Hz cW;clear hO hW hL cI cW;have hb0:=hb.new (.cells #[vI 10,vI a,vS nm,vI 0,vE,.slice A5 0 c5,.slice (some ⟨g,o,none⟩) 2 c6,.slice A7 0 c7] 27);go_enter func89,ntmps89;go_wp2_with fail;have q0:=hb0.at (Lm' ..)
 generalize wr.alloc (.cells #[vI 10,vI a,vS nm,vI 0,vE,.slice A5 0 c5,.slice (some ⟨g,o,none⟩) 2 c6,.slice A7 0 c7] 27)=x at *
 generalize wr.heap.size=T at *
 obtain⟨⟨l0,l1,l2,l3,l4,l5,l6,l7⟩,_⟩:=Ac q0;obtain⟨x0,x1,x2,x3,x4,x5,x6,x7⟩:=Tr HG.out hb0.frame HC.out;refine wp_region_held_drew (S:=(fun w'=>(w'.cell? ⟨T,0,none⟩=some (vI 10)∧w'.cell? ⟨T,1,none⟩=some (vI a)∧w'.cell? ⟨T,2,none⟩=some (vS nm)∧w'.cell? ⟨T,3,none⟩=some (vI 0)∧w'.cell? ⟨T,4,none⟩=some (vE)∧w'.cell? ⟨T,5,none⟩=some (.slice A5 0 c5)∧w'.cell? ⟨T,6,none⟩=some (.slice (some ⟨g,o,none⟩) 2 c6)∧w'.cell? ⟨T,7,none⟩=some (.slice A7 0 c7))∧w'.cell? ⟨g,o,none⟩=some (vI k2)∧w'.cell? ⟨g,o+1,none⟩=some (vI a2)∧w'.cell? ⟨g,o+2,none⟩=some (vS nm2)∧w'.cell? ⟨g,o+3,none⟩=some (vI n2)∧w'.cell? ⟨g,o+4,none⟩=some (vS s2)∧w'.cell? ⟨g,o+5,none⟩=some (.slice A52 ls2.length c52)∧w'.cell? ⟨g,o+6,none⟩=some (.slice A62 args2.length c62)∧w'.cell? ⟨g,o+7,none⟩=some (.slice A72 arms2.length c72))) kR ?_ (fun hHeld=>?_)
 ·exact qq119
 refine tk1 0 (oi:={ dst:=some 51,op:=_,type:=_,pos:=_,after:=_,guard:=_ }) (v:=?_) rfl rF ?_ ?_
 rotate_left
 ·exact qq27
 try simp only[Act.put,sX]
 refine tk1 1 (oi:={ dst:=some 52,op:=_,type:=_,pos:=_,after:=_,guard:=_ }) (v:=?_) rfl rF ?_ ?_
 rotate_left
 ·exact qq27
 try simp only[Act.put,sX]
 refine tkc 2 (oi:={ dst:=some 53,op:=_,type:=_,pos:=_,after:=_,guard:=_ }) rfl (fun K hK=>?_);go_simp;refine(cN _ (HV.out.fr (hb0.fr (Fr.refl [] x).drew).frame)).out.mono ?_;rintro e w2 ⟨rfl,f2⟩;go_simp;replace f2:=((Fr.refl [] x).drew).trans f2;replace q0:=f2.keep q0 nE;replace hb0:=hb0.fr f2;clear l0 l1 l2 l3 l4 l5 l6 l7 x0 x1 x2 x3 x4 x5 x6 x7 hHeld;obtain⟨⟨l0,l1,l2,l3,l4,l5,l6,l7⟩,_⟩:=Ac q0;obtain⟨x0,x1,x2,x3,x4,x5,x6,x7⟩:=Tr HG.out hb0.frame HC.out
 cases nb with
 | false =>
  refine hK.out _ _ ?_ (fun hHeld=>?_)
  ·exact qq119
  clear hK K
  try simp only[Act.put,sX]
  refine tk1 3 (oi:={ dst:=some 54,op:=_,type:=_,pos:=_,after:=_,guard:=_ }) (v:=?_) rfl rF ?_ ?_
  rotate_left
  ·exact qq27
  try simp only[Act.put,sX]
  refine tk0 4 (oi:={ dst:=some 55,op:=_,type:=_,pos:=_,after:=_,guard:=_ }) rfl rF ?_
  try simp only[Act.put,sX]
  refine tk0 5 (oi:={ dst:=some 56,op:=_,type:=_,pos:=_,after:=_,guard:=_ }) rfl rF ?_
  try simp only[Act.put,sX]
  refine tk0 6 (oi:={ dst:=some 57,op:=_,type:=_,pos:=_,after:=_,guard:=_ }) rfl rF ?_
  try simp only[Act.put,sX]
  refine tk0 7 (oi:={ dst:=some 58,op:=_,type:=_,pos:=_,after:=_,guard:=_ }) rfl rF ?_
  try simp only[Act.put,sX]
  refine tk0 8 (oi:={ dst:=some 59,op:=_,type:=_,pos:=_,after:=_,guard:=_ }) rfl rF ?_
  try simp only[Act.put,sX]
  refine tk0 9 (oi:={ dst:=some 60,op:=_,type:=_,pos:=_,after:=_,guard:=_ }) rfl rF ?_;have kqq48:=@Hz _ @nn149
  exact qq48
 | true =>
 by_cases hk:k2=7
 rotate_left
 ·have z7:(k2==7)=false:=by rw[bN];exact hk
  have kqq82:=@Hz _ @nn236;exact qq82
 subst hk;have kqq82:=@Hz _ @nn235;exact qq82
theorem of_eight{w0:World}{g o:Nat}{v0 v1 v2 v3 v4 v5 v6 v7:Value}(h:w0.cell? ⟨g,o,none⟩=some v0∧w0.cell? ⟨g,o+1,none⟩=some v1∧w0.cell? ⟨g,o+2,none⟩=some v2∧w0.cell? ⟨g,o+3,none⟩=some v3∧w0.cell? ⟨g,o+4,none⟩=some v4∧w0.cell? ⟨g,o+5,none⟩=some v5∧w0.cell? ⟨g,o+6,none⟩=some v6∧w0.cell? ⟨g,o+7,none⟩=some v7):
  ∀ (j:Nat) (v:Value),[v0,v1,v2,v3,v4,v5,v6,v7][j]?=some v→w0.cell? ⟨g,o+j,none⟩=some v:=by
 obtain⟨h0,h1,h2,h3,h4,h5,h6,h7⟩:=h;intro j v h
 match j,h with
 | 0,h=>cases h;exact h0
 | 1,h=>cases h;exact h1
 | 2,h=>cases h;exact h2
 | 3,h=>cases h;exact h3
 | 4,h=>cases h;exact h4
 | 5,h=>cases h;exact h5
 | 6,h=>cases h;exact h6
 | 7,h=>cases h;exact h7
 | j+8,h=>simp at h
theorem nn222(h:p:=by
 have hfa:n=0∧s=[]∧ls=[]∧args.length=2∧arms=[]:=by simpa [Ah,and_assoc] using hr
 obtain⟨rfl,rfl,rfl,t,rfl⟩:=hfa;clear hr;obtain⟨x,y,rfl⟩:=Kk t;clear t;have hsz:szE (.mk 10 a nm 0 [] [] [x,y] [])=1+(szE x+szE y):=by simp[szE,Bk,B1]
 rw[hsz] at hN
 cases hx with
 | mk d5 d6 dp de h5 e5 h6 e6 h7 e7 e8 =>
 obtain⟨g,o,rfl,hg,hc⟩:=h6.elem (Fr.refl [] w0) (i:=0) sM;obtain⟨k2,a2,nm2,n2,s2,ls2,args2,arms2,A52,c52,A62,c62,A72,c72,rfl,hx2,hc8⟩:=(e6 0 x rfl).told (o:=o) (by simpa using hc);replace hc:=of_eight hc8;clear hc8;have h62:2≤c6:=h6.cap sM;have hh2:k2=7→Cc k2 n2 ls2.length=some ⟨true,false,false,false,1,false⟩:=fun hk=>by simp[Cc,hk]
 rw[← La'] at hl;refine rec_any w0 P hV a nm A5 A7 c5 c6 c7 k2 a2 nm2 n2 s2 ls2 args2 arms2 A52 A62 A72 c52 c62 c72 g o rs l _ wr hs1 hb hg _ (Bq 7 nm2 n2 ls2 (Er args2)&&Ax args2&&Bd arms2) (Ax [y]) (Bv 7 nm2 n2 (Bj args2) (Dp arms2)) (Gj [[32,105,110,32]] (Bj [y])) ?_ ?_ hl hc ?_ ?_ h62
 ·by_cases hk:k2=7
  ·cases hr:Ah ⟨true,false,false,false,1,false⟩ nm2 n2 s2 ls2.length args2.length arms2.length with
   | false=>simp[Ax,Rw (hh2 hk) hr]
   | true =>
    have e0:=Rv (a:=a2) (hh2 hk) hr;subst hk;simp[Bq,Er,Ax,Bd,e0,Ad.k_,Bool.and_assoc]
  ·have z:(k2==7)=false:=by rw[bN];exact hk
   simp[Bq,Er,Ad.k_,z]
 ·intro hk hr
  have eI:Ia (txE (.mk k2 a2 nm2 n2 s2 ls2 args2 arms2))=Bv 7 nm2 n2 (Bj args2) (Dp arms2):=by
   subst hk;rw[txE];show Ia (40::(Bv 7 nm2 n2 (Bj args2) (Dp arms2)++[41]))=_;simp only[Ia,List.drop_succ_cons,List.drop_zero,List.dropLast_concat]
  rw[← eI]
  show _=l++([108,101,116,32,114,101,99,32]++(nm++([32,61,32]++(Ia (txE (.mk k2 a2 nm2 n2 s2 ls2 args2 arms2))++([32,105,110,32]++txE y)))))
  simp[Gj,Bj]
 ·intro hk hr w rz l' hb' hl';have hh:=hh2 hk;subst hk;exact inner_7 w0 ok P N hV ih a2 nm2 n2 s2 ls2 args2 arms2 A52 A62 A72 c52 c62 c72 rz l' w oM hs5.1 hx2 ⟨_,hh,hr⟩ hb' hl'
 ·intro hk hr w rz l' hb' hM;exact WB.row ih (args:=[y]) (cs:=fun i=>d6 (i+1)) h6.tail (fun i x h=>e6 (i+1) x h) (by simp[Bk];omega) ⟨hs5.2.1,trivial⟩ sM hb' [[32,105,110,32]] 1 hM hl sM sM):p:=h
theorem inner_10(w0:World)(ok:Nat→Prop)(P N:Nat)(hV:E1 w0)(ih:EC w0 ok P N):IC1 w0 ok P (N+1) 10:=by
 have kqq80:=@Hz _ @nn222;exact qq80
theorem Wh(w0:World)(ok:Nat→Prop)(P N:Nat)(hE:EC w0 ok P N)(hP:PC w0 ok P N)(k a:Int)(nm:LB)(n:Int)(s:LB)(x:Ad)(arms:List (Al×Ad))(A5 A6 A7:Option Addr)(m5 c5 c6 c7:Nat)(cs cp ce:Nat→List Value)(h6:En w0 ok (.slice A6 1 c6) 1 8 cs)(e6:Ak w0 ok x (cs 0))(h7:En w0 ok (.slice A7 arms.length c7) arms.length 15 (fun i=>cp i++ce i))(e7:∀ (i:Nat)(p:Al)(x:Ad),arms[i]?=some (p,x)→Bw w0 ok p (cp i))(e8:∀ (i:Nat)(p:Al)(x:Ad),arms[i]?=some (p,x)→Ak w0 ok x (ce i))(hN:szE x+B1 arms<N)(hB:N≤1099511627776)(hs:SwE x)(hs2:Pa arms)(rs:List (Nat×Obj))(l M:LB)(wr:World)(hb:WB w0 P rs l wr)(hM:l++(txE x++([32,119,105,116,104,32]++(J3 (decide (0=0)) (Dp (arms.drop 0))++[32,101,110,100])))=M)(hl:M.length≤70368744177664):
  Calls prog 115 #[.pointer (some ⟨P,0,none⟩),.agg #[vI k,vI a,vS nm,vI n,vS s,.slice A5 m5 c5,.slice A6 1 c6,.slice A7 arms.length c7]] wr (Sd w0 P rs M (Bh x&&Bd arms)):=by
 have HW:=Hz hM;have HL:=Hz hl;have IH:=Hz hE;have IP:=Hz hP;have H6:=Hz h6;have E6:=Hz e6;have H7:=Hz h7;have E7:Hid (∀ (i:Nat) (p:Al) (x:Ad),arms[i]?=some (p,x)→Bw w0 ok p (cp i)):=Hz e7;have E8:Hid (∀ (i:Nat) (p:Al) (x:Ad),arms[i]?=some (p,x)→Ak w0 ok x (ce i)):=Hz e8;have HN:=Hz hN;have HS:=Hz hs;have HS2:=Hz hs2;have hal:(arms.length:Int)≤1099511627776:=by have:=Vv arms;omega
 clear hM hl hE hP h6 e6 h7 e7 e8 hN hB hs hs2;have hb0:=hb.new (.cells #[vI k,vI a,vS nm,vI n,vS s,.slice A5 m5 c5,.slice A6 1 c6,.slice A7 arms.length c7] 27);obtain⟨g,o,hA,hg,hc⟩:=H6.out.elem hb0.frame (i:=0) sM;subst hA;simp only[Nat.zero_mul,Nat.add_zero] at hc;obtain⟨k2,a2,nm2,n2,s2,ls2,args2,arms2,A52,c52,A62,c62,A72,c72,rfl,hx2,x0,x1,x2,x3,x4,x5,x6,x7⟩:=E6.out.told hc;have C2:=Hz (IH.out k2 a2 nm2 n2 s2 ls2 args2 arms2 A52 A62 A72 c52 c62 c72 _ _ _ (by have:=HN.out;omega) HS.out hx2 hb0 (by have:=Bb HW.out HL.out;omega));clear hc hx2 hb
 generalize hX:Bh (.mk k2 a2 nm2 n2 s2 ls2 args2 arms2)=O1 at *
 generalize hZ:txE (.mk k2 a2 nm2 n2 s2 ls2 args2 arms2)=tx at *
 clear hX hZ;go_enter func115,ntmps115;go_wp2_with fail
 generalize wr.heap.size=T at *
 refine C2.out.mono ?_;rintro e w3 (⟨hok,rfl,hb⟩| ⟨hok,rfl,hf⟩)
 ·have HW1:=Hz (Ba HW.out);clear x0 x1 x2 x3 x4 x5 x6 x7 C2;subst hok;have HO:Hid (Bd (arms.drop 0)=(true&&Bd arms)):=Hz rfl
  generalize (true&&Bd arms)=O at *
  obtain⟨⟨l0,l1,l2,l3,l4,l5,l6,l7⟩,_⟩:=Ac (hb.at (Lm' ..));go_wp2_with fail;clear l0 l1 l2 l3 l4 l5 l6 l7;refine(hb.add1 [32,119,105,116,104,32] _ (by have:=Bb HW1.out HL.out;omega)).mono ?_;rintro e w4 ⟨rfl,hb⟩;have HW2:=Hz (Ba HW1.out);obtain⟨⟨l0,l1,l2,l3,l4,l5,l6,l7⟩,_⟩:=Ac (hb.at (Lm' ..));go_wp2_with fail;clear l0 l1 l2 l3 l4 l5 l6 l7 HW HW1
  go_loopw [18] (fun iv wx=>∃ (i:Nat) (m:LB),iv=vI i∧i≤arms.length∧WB w0 P ((T,.cells #[vI k,vI a,vS nm,vI n,vS s,.slice A5 m5 c5,.slice (some ⟨g,o,none⟩) 1 c6,.slice A7 arms.length c7] 27)::rs) m wx∧Hid (m++(J3 (decide (i=0)) (Dp (arms.drop i))++[32,101,110,100])=M)∧Hid (Bd (arms.drop i)=O)) (fun iv wx=>arms.length-(intOf iv).toNat)
  case atStart=>exact⟨0,_,rfl,oM,hb,HW2,HO⟩
  case round =>
   obtain⟨i,m,rfl,hi,hb,HW,HO⟩:=hrel;clear HW2;by_cases hlt:i<arms.length
   ·obtain⟨⟨p,y⟩,hx⟩:∃ x,arms[i]?=some x:=⟨arms[i],Lg' hlt⟩
    obtain⟨D,hD⟩:∃ D:LB,D=if decide (i=0)=true then [] else [32,124,32]:=⟨_,rfl⟩
    have hw:m++(D++(txP p++([32,45,62,32]++(txE y++(J3 (decide (i+1=0)) (Dp (arms.drop (i+1)))++[32,101,110,100])))))=M:=by rw[← HW.out,arm_at hx,hD];simp[Ls']
    have ho:((Fb p&&Bh y)&&Bd (arms.drop (i+1)))=O:=by rw[← HO.out,Z8 hx]
    have HX:=Hz hx;have HW1:=Hz (Ba hw);have HO1:=Hz ho;have HDD:=Hz hD;have hml:=Hz (Bb hw HL.out);obtain⟨g7,o7,hA7,hg7,hc7⟩:=H7.out.elem hb.frame hlt;subst hA7;obtain⟨k3,a3,nm3,n3,s3,ls3,args3,A53,c53,A63,c63,k2,a2,nm2,n2,s2,ls2,args2,arms2,A52,c52,A62,c62,A72,c72,rfl,rfl,hp2,hx2,y0,y1,y2,y3,y4,y5,y6,y7,y8,y9,y10,y11,y12,y13,y14⟩:=Wg (E7.out i _ _ hx) (E8.out i _ _ hx) hc7;clear hx hw ho hc7 hD;have q1:(0:Int)≤(i:Int):=by omega
    have q2:(i:Int)<(arms.length:Int):=by omega
    have hq:(wr.alloc (.cells #[vI k3,vI a3,vS nm3,vI n3,vS s3,.slice A53 ls3.length c53,.slice A63 args3.length c63,vI k2,vI a2,vS nm2,vI n2,vS s2,.slice A52 ls2.length c52,.slice A62 args2.length c62,.slice A72 arms2.length c72] 125)).heap.size=wr.heap.size+1:=by simp
    replace hb:=hb.new (.cells #[vI k3,vI a3,vS nm3,vI n3,vS s3,.slice A53 ls3.length c53,.slice A63 args3.length c63,vI k2,vI a2,vS nm2,vI n2,vS s2,.slice A52 ls2.length c52,.slice A62 args2.length c62,.slice A72 arms2.length c72] 125);by_cases h0:i=0
    ·have hi0:¬ (0:Int)<(i:Int):=by omega
     have hD:D=[]:=by rw[HDD.out];simp[h0]
     have HW2:Hid (m++(txP (.mk k3 a3 nm3 n3 s3 ls3 args3)++([32,45,62,32]++(txE (.mk k2 a2 nm2 n2 s2 ls2 args2 arms2)++(J3 (decide (i+1=0)) (Dp (arms.drop (i+1)))++[32,101,110,100]))))=M):=Hz (by have:=HW1.out;rw[hD,List.append_nil] at this;exact this);clear hD h0;go_wp2_with fail
     generalize wr.heap.size=Tx at *
     exact qq46
    ·have hi0:(0:Int)<(i:Int):=by omega
     have hD:D=[32,124,32]:=by rw[HDD.out];simp[h0]
     clear h0;go_wp2_with fail
     generalize wr.heap.size=Tx at *
     refine(WB.add1q hq hb [32,124,32] _ (by have:=hml.out;rw[hD] at this;omega)).mono ?_;rintro e w5 ⟨rfl,hb⟩;have HW2:=HW1;rw[hD] at HW2;clear hD;exact qq46
   ·have ei:i=arms.length:=by omega
    subst ei;have hw:=HW.out;rw[arm_end (Nr' _)] at hw;have ho:=HO.out;rw[mayAs_end (Nr' _)] at ho;go_wp2_with fail;refine(hb.add1 [32,101,110,100] _ (by have h1:=congrArg List.length hw;have h2:=HL.out;simp only[La',Ln',Lc'] at h1 ⊢;omega)).mono ?_;rintro e w4 ⟨rfl,hb⟩;go_wp2_with fail
    go_end0
    exact Sd.done ho.symm (by rw[← hw];simp) hb.drop
 ·exact qq172
theorem nn221(h:p:=by
 have hfa:nm=[]∧n=0∧s=[]∧ls=[]∧args.length=1∧0<arms.length:=by simpa [Ah,and_assoc] using hr
 obtain⟨rfl,rfl,rfl,rfl,t,tm⟩:=hfa;clear hr;obtain⟨x,rfl⟩:=Ko t;clear t;have hsz:szE (.mk 16 a [] 0 [] [] [x] arms)=1+(szE x+B1 arms):=by simp[szE,Bk]
 rw[hsz] at hN
 cases hx with
 | mk d5 d6 dp de h5 e5 h6 e6 h7 e7 e8 =>
 have HW:Hid (l++([109,97,116,99,104,32]++(txE x++([32,119,105,116,104,32]++(J3 (decide (0=0)) (Dp (arms.drop 0))++[32,101,110,100]))))=l++Bv 16 [] 0 (Bj [x]) (Dp arms)):=Hz (by simp[Bv,Bj]);rw[← La'] at hl;have HO:Hid ((Bh x&&Bd arms)=(Bq 16 [] 0 [] (Er [x])&&Ax [x]&&Bd arms)):=Hz (by simp[Bq,Ax])
 generalize l++Bv 16 [] 0 (Bj [x]) (Dp arms)=M at *
 generalize (Bq 16 [] 0 [] (Er [x])&&Ax [x]&&Bd arms)=O at *
 have HL:=Hz hl;have cA:=fun w rz l' hb hM=>Hz (Wh w0 ok P N ih hP 16 a [] 0 [] x arms A5 A6 A7 0 c5 c6 c7 d6 dp de h6 (e6 0 x rfl) h7 e7 e8 oM oM hs5.1 hs6 rz l' M w hb hM hl)
 clear h5 e5 h6 e6 h7 e7 e8 hN hs5 hs6 hl hsz ih hP;have hq:(wr.alloc (.cells #[vI 16,vI a,vE,vI 0,vE,.slice A5 0 c5,.slice A6 1 c6,.slice A7 arms.length c7] 27)).heap.size=wr.heap.size+1:=by simp
 have hb0:=hb.new (.cells #[vI 16,vI a,vE,vI 0,vE,.slice A5 0 c5,.slice A6 1 c6,.slice A7 arms.length c7] 27);go_enter func89,ntmps89;go_wp2_with fail;refine(WB.add1q hq hb0 [109,97,116,99,104,32] _ (by have:=Bb HW.out HL.out;omega)).mono ?_;rintro e w4 ⟨rfl,hb⟩;exact qq247):p:=h
theorem inner_16(w0:World)(ok:Nat→Prop)(P N:Nat)(hB:N≤1099511627775)(ih:EC w0 ok P N)(hP:PC w0 ok P N):IC1 w0 ok P (N+1) 16:=by
 have kqq80:=@Hz _ @nn221;exact qq80
theorem nn220(h:p:=by
 have hfa:nm=[]∧n=0∧s=[]∧ls=[]∧args.length=1∧0<arms.length:=by simpa [Ah,and_assoc] using hr
 obtain⟨rfl,rfl,rfl,rfl,t,tm⟩:=hfa;clear hr;obtain⟨x,rfl⟩:=Ko t;clear t;have hsz:szE (.mk 17 a [] 0 [] [] [x] arms)=1+(szE x+B1 arms):=by simp[szE,Bk]
 rw[hsz] at hN
 cases hx with
 | mk d5 d6 dp de h5 e5 h6 e6 h7 e7 e8 =>
 have HW:Hid (l++([116,114,121,32]++(txE x++([32,119,105,116,104,32]++(J3 (decide (0=0)) (Dp (arms.drop 0))++[32,101,110,100]))))=l++Bv 17 [] 0 (Bj [x]) (Dp arms)):=Hz (by simp[Bv,Bj]);rw[← La'] at hl;have HO:Hid ((Bh x&&Bd arms)=(Bq 17 [] 0 [] (Er [x])&&Ax [x]&&Bd arms)):=Hz (by simp[Bq,Ax])
 generalize l++Bv 17 [] 0 (Bj [x]) (Dp arms)=M at *
 generalize (Bq 17 [] 0 [] (Er [x])&&Ax [x]&&Bd arms)=O at *
 have HL:=Hz hl;have cA:=fun w rz l' hb hM=>Hz (Wh w0 ok P N ih hP 17 a [] 0 [] x arms A5 A6 A7 0 c5 c6 c7 d6 dp de h6 (e6 0 x rfl) h7 e7 e8 oM oM hs5.1 hs6 rz l' M w hb hM hl)
 clear h5 e5 h6 e6 h7 e7 e8 hN hs5 hs6 hl hsz ih hP;have hq:(wr.alloc (.cells #[vI 17,vI a,vE,vI 0,vE,.slice A5 0 c5,.slice A6 1 c6,.slice A7 arms.length c7] 27)).heap.size=wr.heap.size+1:=by simp
 have hb0:=hb.new (.cells #[vI 17,vI a,vE,vI 0,vE,.slice A5 0 c5,.slice A6 1 c6,.slice A7 arms.length c7] 27);go_enter func89,ntmps89;go_wp2_with fail;refine(WB.add1q hq hb0 [116,114,121,32] _ (by have:=Bb HW.out HL.out;omega)).mono ?_;rintro e w4 ⟨rfl,hb⟩;exact qq247):p:=h
theorem inner_17(w0:World)(ok:Nat→Prop)(P N:Nat)(hB:N≤1099511627775)(ih:EC w0 ok P N)(hP:PC w0 ok P N):IC1 w0 ok P (N+1) 17:=by
 have kqq80:=@Hz _ @nn220;exact qq80
theorem inner_19(w0:World)(ok:Nat→Prop)(P N:Nat)(ih:EC w0 ok P N):IC1 w0 ok P (N+1) 19:=by
 intro a nm n s ls args arms A5 A6 A7 c5 c6 c7 rs l wr hN hs hx hR hb hl;obtain⟨⟨hs1,hs2,hs3,hs4⟩,hs5,hs6⟩:=hs;obtain⟨h,hh,hr⟩:=hR;have hbd:1≤n∧n≤21:=Classical.byContradiction fun hc=>by simp[Cc,hc] at hh
 simp[Cc,hbd] at hh;subst hh;have hfa:nm=[]∧s=[]∧ls=[]∧args.length=D4 n∧arms=[]:=by simpa [Ah,and_assoc] using hr
 obtain⟨rfl,rfl,rfl,t,rfl⟩:=hfa;clear hr;have hsz:szE (.mk 19 a [] n [] [] args [])=1+Bk args:=by simp[szE,B1]
 rw[hsz] at hN
 cases hx with
 | mk d5 d6 dp de h5 e5 h6 e6 h7 e7 e8 =>
 have hT:Bv 19 [] n (Bj args) (Dp [])=opT n (Bj args):=by simp[Bv]
 rw[hT] at hl ⊢;have HO:(Bq 19 [] n [] (Er args)&&Ax args&&Bd [])=Ax args:=by simp[Bq,Bd]
 rw[HO];clear HO hT;have cO:=fun w rz hb=>Hz (wop_any w0 ok P N ih n hbd.1 hbd.2 args A6 c6 d6 h6 e6 oM hs5 t rz l w hb hl)
 have hb0:=hb.new (.cells #[vI 19,vI a,vE,vI n,vE,.slice A5 0 c5,.slice A6 args.length c6,.slice A7 0 c7] 27);clear h5 e5 h6 e6 h7 e7 e8 hN hs5 hl hsz ih t hbd
 generalize l++opT n (Bj args)=M at *
 generalize Ax args=O at *
 go_enter func89,ntmps89;go_wp2_with fail;refine(cO _ _ hb0).out.mono ?_;rintro e w5 (⟨hok,rfl,hb⟩| ⟨hok,rfl,hf⟩)
 ·go_wp2_with fail
  go_end0
  exact Sd.done (by simp[hok]) rfl hb.drop
 ·exact qq172
theorem nn374(h:p:=by
 refine wp_region_any kR ?_
 try(change wpAny _ _ _ _ _ _ _ (World.drew _))
 refine wpAny_ready (rs:=[0,2]) kR sM ?_;refine(AllReady.cons rfl (fun K hK=>?_) (AllReady.cons rfl (fun K hK=>?_) AllReady.nil))
 ·go_simp;refine hK _ _ ?_;clear hK K;refine wpAny_ready (rs:=[1,2]) kR sM ?_;refine(AllReady.cons rfl (fun K hK=>?_) (AllReady.cons rfl (fun K hK=>?_) AllReady.nil))
  ·exact qq106
  ·exact qq260
 ·go_simp;refine hK _ _ ?_;clear hK K;refine wpAny_ready (rs:=[0]) kR sM ?_;refine(AllReady.cons rfl (fun K hK=>?_) AllReady.nil);exact qq260):p:=h
theorem expr_none(w0:World)(ok:Nat→Prop)(P N:Nat)(k a:Int)(nm:LB)(n:Int)(s:LB)(ls:List LB)(args:List Ad)(arms:List (Al×Ad))(A5 A6 A7:Option Addr)(c5 c6 c7:Nat)(rs:List (Nat×Obj))(l M:LB)(wr:World)(hh:Cc k n ls.length=none)(hb:WB w0 P rs l wr):
  Calls prog 37 #[.pointer (some ⟨P,0,none⟩),.agg #[vI k,vI a,vS nm,vI n,vS s,.slice A5 ls.length c5,.slice A6 args.length c6,.slice A7 arms.length c7]] wr (Sd w0 P rs M false):=by
 have cF:=fun W=>Hz (Wy k a nm n s A5 A6 A7 ls.length args.length arms.length c5 c6 c7 hh W)
 have kqq167:=@Hz _ @nn374;exact qq167
theorem nn373(h:p:=by
 refine wp_region_any kR ?_
 try(change wpAny _ _ _ _ _ _ _ (World.drew _))
 refine wpAny_ready (rs:=[0,2]) kR sM ?_;refine(AllReady.cons rfl (fun K hK=>?_) (AllReady.cons rfl (fun K hK=>?_) AllReady.nil))
 ·go_simp;refine hK _ _ ?_;clear hK K;refine wpAny_ready (rs:=[1,2]) kR sM ?_;refine(AllReady.cons rfl (fun K hK=>?_) (AllReady.cons rfl (fun K hK=>?_) AllReady.nil))
  ·have kqq299:=@Hz _ @nn561;exact qq299
  ·exact qq131
 ·go_simp;refine hK _ _ ?_;clear hK K;refine wpAny_ready (rs:=[0]) kR sM ?_;refine(AllReady.cons rfl (fun K hK=>?_) AllReady.nil);exact qq131):p:=h
theorem nn561(h:p:=by
 refine wpAny_ready (rs:=[2]) kR sM ?_;refine(AllReady.cons rfl (fun K hK=>?_) AllReady.nil);go_simp;refine hK _ _ ?_;clear hK K;exact qq59):p:=h
theorem nn572(h:p:=by
 have kqq167:=@Hz _ @nn373;exact qq167):p:=h
theorem Zi(w0:World)(ok:Nat→Prop)(P N:Nat)(k a:Int)(nm:LB)(n:Int)(s:LB)(ls:List LB)(args:List Ad)(arms:List (Al×Ad))(A5 A6 A7:Option Addr)(c5 c6 c7:Nat)(rs:List (Nat×Obj))(l M:LB)(wr:World)(h:Lm)(hh:Cc k n ls.length=some h)(hr:Ah h nm n s ls.length args.length arms.length=false)(hb:WB w0 P rs l wr):
  Calls prog 37 #[.pointer (some ⟨P,0,none⟩),.agg #[vI k,vI a,vS nm,vI n,vS s,.slice A5 ls.length c5,.slice A6 args.length c6,.slice A7 arms.length c7]] wr (Sd w0 P rs M false):=by
 have kqq314:=@Hz _ @nn572;exact qq314
theorem nn268(h:p:=by
 cases hn:Aw nm with
 | false =>
  exact qq112
 | true =>
 go_wp2_with fail;refine(must_yes _).mono ?_;rintro e w6 ⟨rfl,rfl⟩;go_wp2_with fail;refine(hb.add1 [123] _ (by have:=Bb HW.out HL.out;omega)).mono ?_;rintro e w5 ⟨rfl,hb⟩;have HW1:=Hz (Ba HW.out);have kqq338:=@Hz _ @nn641;exact qq338):p:=h
theorem nn269(h:p:=by
 cases hn:Aw nm with
 | false =>
  exact qq112
 | true =>
 go_wp2_with fail;refine(must_yes _).mono ?_;rintro e w6 ⟨rfl,rfl⟩;have kqq338:=@Hz _ @nn640;exact qq338):p:=h
theorem nn270(h:p:=by
 cases hn:Eg nm with
 | false =>
  exact qq146
 | true =>
  exact qq101):p:=h
theorem nn271(h:p:=by
 cases hn:Aw nm with
 | false =>
  exact qq146
 | true =>
  exact qq101):p:=h
theorem nn372(h:p:=by
 generalize hX:wr.alloc (.cells #[vI k,vI a,vS nm,vI n,vS s,.slice A5 ls.length c5,.slice A6 args.length c6,.slice A7 arms.length c7] 27)=x at *
 generalize wr.heap.size=T at *
 obtain⟨⟨l0,l1,l2,l3,l4,l5,l6,l7⟩,_⟩:=Ac q0;have hT:=Aa q0
 go_region_held3 (fun w'=>w'.cell? ⟨T,0,none⟩=some (vI k)∧w'.cell? ⟨T,1,none⟩=some (vI a)∧w'.cell? ⟨T,2,none⟩=some (vS nm)∧w'.cell? ⟨T,3,none⟩=some (vI n)∧w'.cell? ⟨T,4,none⟩=some (vS s)∧w'.cell? ⟨T,5,none⟩=some (.slice A5 ls.length c5)∧w'.cell? ⟨T,6,none⟩=some (.slice A6 args.length c6)∧w'.cell? ⟨T,7,none⟩=some (.slice A7 arms.length c7)) (first|go_keep|exact⟨l0,l1,l2,l3,l4,l5,l6,l7⟩) ((first|((with_reducible refine(cF _).out.mono ?_);rintro e w2 ⟨rfl,f2⟩;have q0:=f2.keep q0 nE;obtain⟨⟨l0,l1,l2,l3,l4,l5,l6,l7⟩,_⟩:=Ac q0)| ((with_reducible refine(cR _).out.mono ?_);rintro e w3 ⟨rfl,f3⟩;have q0:=f3.keep q0 nE;obtain⟨⟨l0,l1,l2,l3,l4,l5,l6,l7⟩,_⟩:=Ac q0)| ((with_reducible refine(must_yes _).mono ?_);rintro e w4 ⟨rfl,rfl⟩)))
 replace hb:=((hb0.fr ((Fr.refl [] x).drew.trans f2)).fr f3)
 clear hb0 f2 f3 q0 cF cR hX hT l0 l1 l2 l3 l4 l5 l6 l7;obtain⟨⟨l0,l1,l2,l3,l4,l5,l6,l7⟩,_⟩:=Ac (hb.at (Lm' ..));by_cases t1:k=1
 ·subst t1;have kqq254:=@Hz _ @nn508;exact qq254
 by_cases t6:k=6
 ·subst t6;have kqq254:=@Hz _ @nn507;exact qq254
 by_cases t2:k=2
 ·subst t2;have kqq265:=@Hz _ @nn526;exact qq265
 by_cases t4:k=4
 ·subst t4;have kqq265:=@Hz _ @nn525;exact qq265
 by_cases t3:k=3
 ·subst t3;have hh:=HH.out;have hr:=HR.out;simp[Cc] at hh;subst hh;obtain⟨rfl,rfl,rfl,rfl,rfl⟩:nm=[]∧n=0∧ls=[]∧args=[]∧arms=[]:=by simpa [Ah,and_assoc] using hr
  obtain⟨⟨hs1,hs2,hs3,hs4⟩,hs5,hs6⟩:=HS.out;clear HI HH HR hr HS;have HW:Hid (l++(Dr s++[])=M):=Hz (by rw[← HM.out];simp[txE,E4,Bj,Dp]);have HP:Hid (true=O):=Hz (by rw[← HO.out];simp[Bq,Ax,Bd]);have cQ:=fun w=>Hz (O9 ⟨s.toArray⟩ (by simp[ByteArray.size];omega) w)
  rw[(show(⟨s.toArray⟩:ByteArray).data.toList=s from rfl)] at cQ;go_wp2_with fail;refine(cQ _).out.mono ?_;rintro e w5 ⟨rfl,hf⟩;replace hb:=hb.fr hf;clear hf l0 l1 l2 l3 l4 l5 l6 l7;exact qq263
 by_cases t5:k=5
 ·subst t5;have hh:=HH.out;have hr:=HR.out;simp[Cc] at hh;subst hh;obtain⟨rfl,rfl,rfl,rfl,rfl,rfl⟩:nm=[]∧n=0∧s=[]∧ls=[]∧args=[]∧arms=[]:=by simpa [Ah,and_assoc] using hr
  obtain⟨⟨hs1,hs2,hs3,hs4⟩,hs5,hs6⟩:=HS.out;clear HI HH HR hr HS;have HW:Hid (l++([40,41]++[])=M):=Hz (by rw[← HM.out];simp[txE,E4,Bj,Dp]);have HP:Hid (true=O):=Hz (by rw[← HO.out];simp[Bq,Ax,Bd]);exact qq262
 by_cases t14:k=14
 ·subst t14;have hh:=HH.out;have hr:=HR.out;simp[Cc] at hh;subst hh;obtain⟨rfl,rfl,rfl,t,rfl⟩:n=0∧s=[]∧ls=[]∧args.length=1∧arms=[]:=by simpa [Ah,and_assoc] using hr
  obtain⟨⟨hs1,hs2,hs3,hs4⟩,hs5,hs6⟩:=HS.out;clear HI HH HR hr HS;obtain⟨x,rfl⟩:=Ko t;have HW:Hid (l++(txE x++(([46]++nm)++[]))=M):=Hz (by rw[← HM.out];simp[txE,E4,Bj,Dp]);have HP:Hid ((Aw nm&&Bh x)=O):=Hz (by rw[← HO.out];simp[Bq,Ax,Bd]);have hN:=HN.out;rw[show szE _=1+szE x by simp[szE,Bk,B1]] at hN;replace HN:=Hz hN;clear hN;have HS:=Hz hs5.1
  cases HX.out with
  | mk d5 d6 dp de h5 e5 h6 e6 h7 e7 e8 =>
  have H6:=Hz h6;have E6:=Hz (e6 0 x rfl);clear hs5 h5 e5 h6 e6 h7 e7 e8 HX;have cN:=fun w hE=>Hz (Fx ⟨nm.toArray⟩ (by simp[ByteArray.size];omega) w hE)
  have kqq97:=@Hz _ @nn269;exact qq97
 by_cases t13:k=13
 ·subst t13;have hh:=HH.out;have hr:=HR.out;simp[Cc] at hh;subst hh;obtain⟨rfl,rfl,rfl,t,rfl⟩:n=0∧s=[]∧ls=[]∧args.length=2∧arms=[]:=by simpa [Ah,and_assoc] using hr
  obtain⟨⟨hs1,hs2,hs3,hs4⟩,hs5,hs6⟩:=HS.out;clear HI HH HR hr HS;obtain⟨x,y,rfl⟩:=Kk t;have HW:Hid (l++([123]++(txE x++(([32,119,105,116,104,32]++(nm++[32,61,32]))++(txE y++([125]++[])))))=M):=Hz (by rw[← HM.out];simp[txE,E4,Bj,Dp]);have HP:Hid ((Aw nm&&(Bh x&&Bh y))=O):=Hz (by rw[← HO.out];simp[Bq,Ax,Bd]);have hN:=HN.out;rw[show szE _=1+(szE x+szE y) by simp[szE,Bk,B1]] at hN;replace HN:=Hz hN;clear hN;have HS:=Hz hs5
  cases HX.out with
  | mk d5 d6 dp de h5 e5 h6 e6 h7 e7 e8 =>
  have H6:=Hz h6;have E6:=Hz (e6 0 x rfl);have E7:=Hz (e6 1 y rfl);clear hs5 h5 e5 h6 e6 h7 e7 e8 HX;have cN:=fun w hE=>Hz (Fx ⟨nm.toArray⟩ (by simp[ByteArray.size];omega) w hE)
  have kqq97:=@Hz _ @nn268;exact qq97
 by_cases t12:k=12
 ·subst t12;have hh:=HH.out;have hr:=HR.out;simp[Cc] at hh;subst hh;obtain⟨rfl,rfl,rfl,t,rfl⟩:nm=[]∧n=0∧s=[]∧args.length=ls.length∧arms=[]:=by simpa [Ah,and_assoc] using hr
  obtain⟨⟨hs1,hs2,hs3,hs4⟩,hs5,hs6⟩:=HS.out;clear HI HH HR hr HS;have HT:=Hz t;have HO2:Hid (((ls.drop 0).all Aw&&Ax (args.drop 0))=O):=Hz (by rw[← HO.out];simp[Bq,Bd]);replace HO:=HO2;clear HO2;have HW:Hid (l++([123]++(Jj (decide (0=0)) (ls.drop 0) (Bj (args.drop 0))++[125]))=M):=Hz (by rw[← HM.out];simp[txE,E4]);have hN:=HN.out;rw[show szE _=1+Bk args by simp[szE,Bk,B1]] at hN;replace HN:=Hz hN;clear hN;have HS:=Hz hs5;have HS4:=Hz hs4;have hal:args.length≤1099511627776:=by have:=Vw args;have:=HN.out;have:=HB.out;omega
  cases HX.out with
  | mk d5 d6 dp de h5 e5 h6 e6 h7 e7 e8 =>
  have H5:=Hz h5;have H6:=Hz h6;have E5:Hid (∀ (i:Nat) (x:LB),ls[i]?=some x→d5 i=Gk x):=Hz e5;have E6:Hid (∀ (i:Nat) (x:Ad),args[i]?=some x→Ak w0 ok x (d6 i)):=Hz e6;have q9:(args.length:Int)=(ls.length:Int):=by rw[t]
  have q8:(args.length:Int)≤1099511627776:=by omega
  clear hs5 hs4 h5 e5 h6 e6 h7 e7 e8 HX t;go_wp2_with fail;refine(hb.add1 [123] _ (by have:=Bb HW.out HL.out;omega)).mono ?_;rintro e w2 ⟨rfl,hb⟩;have HW0:=Hz (Ba HW.out);have kqq249:=@Hz _ @nn489;exact qq249
 have HW:Hid (l++([40]++(Bv k nm n (Bj args) (Dp arms)++([41]++[])))=M):=Hz (by rw[← HM.out];simp[txE,E4, *]);have cI:=fun w rz l' hb hl'=>Hz (HI.out k ⟨t1,t6,t2,t3,t4,t5,t14,t12,t13⟩ a nm n s ls args arms A5 A6 A7 c5 c6 c7 rz l' w HN.out HS.out HX.out ⟨h,HH.out,HR.out⟩ hb hl')
 have z1:(k==1)=false:=by rw[bN];exact t1
 have z6:(k==6)=false:=by rw[bN];exact t6
 have z2:(k==2)=false:=by rw[bN];exact t2
 have z3:(k==3)=false:=by rw[bN];exact t3
 have z4:(k==4)=false:=by rw[bN];exact t4
 have z5:(k==5)=false:=by rw[bN];exact t5
 have z14:(k==14)=false:=by rw[bN];exact t14
 have z12:(k==12)=false:=by rw[bN];exact t12
 have z13:(k==13)=false:=by rw[bN];exact t13
 clear HI HH HR HS HN HX IH t1 t6 t2 t3 t4 t5 t14 t12 t13;go_wp2_with fail;refine(hb.add1 [40] _ (by have:=Bb HW.out HL.out;omega)).mono ?_;rintro e w5 ⟨rfl,hb⟩;have HW1:=Hz (Ba HW.out);have kqq249:=@Hz _ @nn488;exact qq249):p:=h
theorem nn388(h:p:=by
 refine C2.out.mono ?_;rintro e w4 (⟨hok2,rfl,hb⟩| ⟨hok2,rfl,hf⟩)
 ·have HW2:=Hz (Ba HW1.out);have HO2:=Hz HO1.out;rw[hok1,hok2,Bool.true_and,Bool.true_and] at HO2;clear hok1 hok2 C2 HW1 HO1 HW HO l0 l1 l2 l3 l4 l5 l6 l7;exact qq169
 ·go_wp2_with fail;exact⟨rfl,Sd.gave (by rw[← HO1.out,hok2];simp) hf⟩):p:=h
theorem nn488(h:p:=by
 refine(cI _ _ _ hb (by have:=Bb HW1.out HL.out;omega)).out.mono ?_;rintro e w6 (⟨hok,rfl,hb⟩| ⟨hok,rfl,hf⟩)
 ·have HW2:=Hz (Ba HW1.out);go_wp2_with fail;refine(hb.add1 [41] _ (by have:=Bb HW2.out HL.out;omega)).mono ?_;rintro e w5 ⟨rfl,hb⟩;go_wp2_with fail
  go_end0
  exact Sd.done (by rw[← HO.out,hok]) (Dc (Ba HW2.out)) hb.drop
 ·exact qq180):p:=h
theorem nn489(h:p:=by
 clear l0 l1 l2 l3 l4 l5 l6 l7;clear HW
 go_loopw [107] (fun iv wx=>∃ (i:Nat) (m:LB),iv=vI i∧i≤args.length∧WB w0 P ((T,.cells #[vI 12,vI a,vE,vI 0,vE,.slice A5 ls.length c5,.slice A6 args.length c6,.slice A7 0 c7] 27)::rs) m wx∧Hid (m++(Jj (decide (i=0)) (ls.drop i) (Bj (args.drop i))++[125])=M)∧Hid ((((ls.drop i).all Aw)&&Ax (args.drop i))=O)) (fun iv wx=>args.length-(intOf iv).toNat)
 case atStart=>exact⟨0,_,rfl,oM,hb,HW0,HO⟩
 case round =>
  obtain⟨i,m,rfl,hi,hb,HW,HO⟩:=hrel;clear HW0;by_cases hlt:i<args.length
  ·obtain⟨x,hx⟩:∃ x,args[i]?=some x:=⟨args[i],Lg' hlt⟩
   obtain⟨y,hy⟩:∃ y,ls[i]?=some y:=⟨ls[i]'(by rw[← HT.out];exact hlt),Lg' _⟩
   have hw:m++(((if decide (i=0)=true then [] else [44,32])++(y++[32,61,32]))++(txE x++(Jj (decide (i+1=0)) (ls.drop (i+1)) (Bj (args.drop (i+1)))++[125])))=M:=by rw[← HW.out,rowE_at hy hx];simp[Ls']
   have ho:((Aw y&&((ls.drop (i+1)).all Aw))&&(Bh x&&Ax (args.drop (i+1))))=O:=by rw[← HO.out,allB_at hy,N3 hx]
   have HX:=Hz hx;have HW1:=Hz (Ba hw);have HO1:=Hz ho;have hyl:=HS4.out y (List.mem_of_getElem? hy);obtain⟨g5,o5,hA5,hg5,hc5⟩:=H5.out.elem hb.frame (i:=i) (by rw[← HT.out];exact hlt);subst hA5;have y0:=hc5 0 _ (by rw[E5.out i y hy];rfl);simp only[Nat.mul_one,Nat.add_zero] at y0;obtain⟨g,o,hA,hg,hc⟩:=H6.out.elem hb.frame hlt;subst hA;obtain⟨k2,a2,nm2,n2,s2,ls2,args2,arms2,A52,c52,A62,c62,A72,c72,rfl,hx2,x0,x1,x2,x3,x4,x5,x6,x7⟩:=(E6.out i _ hx).told hc;have kqq294:=@Hz _ @nn550;exact qq294
  ·have ei:i=args.length:=by omega
   subst ei;have hw:=HW.out;rw[row_end (by rw[← HT.out];exact Nr' _)] at hw;have ho:=HO.out;rw[List.drop_eq_nil_of_le (by rw[← HT.out];exact Nr' _:ls.length≤args.length),Lb (Nr' _)] at ho;exact qq155):p:=h
theorem nn490(h:p:=by
 refine C2.out.mono ?_;rintro e w7 (⟨hok,rfl,hb⟩| ⟨hok,rfl,hf⟩)
 ·have HW2:=Hz (Ba HW.out);clear x0 x1 x2 x3 x4 x5 x6 x7;have kqq249:=@Hz _ @nn491;exact qq249
 ·go_wp2_with fail;exact⟨rfl,Sd.gave (by rw[← HP.out,hn,hok];rfl) hf⟩):p:=h
theorem nn491(h:p:=by
 refine(hb.add2 [46] nm _ (by have:=Bb HW2.out HL.out;omega)).mono ?_;rintro e w5 ⟨rfl,hb⟩;exact qq343):p:=h
theorem nn492(h:p:=by
 refine C2.out.mono ?_;rintro e w7 (⟨hok,rfl,hb⟩| ⟨hok,rfl,hf⟩)
 ·have HW2:=Hz (Ba HW1.out);clear C2 x0 x1 x2 x3 x4 x5 x6 x7;have kqq249:=@Hz _ @nn493;exact qq249
 ·go_wp2_with fail;exact⟨rfl,Sd.gave (by rw[← HP.out,hok];simp) hf⟩):p:=h
theorem nn493(h:p:=by
 refine(hb.add3 [32,119,105,116,104,32] nm [32,61,32] _ (by have:=Bb HW2.out HL.out;omega)).mono ?_;rintro e w5 ⟨rfl,hb⟩;have HW3:=Hz (Ba HW2.out);obtain⟨g,o,hA,hg,hc⟩:=H6.out.elem hb.frame (i:=1) sM;cases hA;simp only[Nat.zero_mul,Nat.add_zero,Nat.one_mul] at hc;obtain⟨k2,a2,nm2,n2,s2,ls2,args2,arms2,A52,c52,A62,c62,A72,c72,rfl,hx2,x0,x1,x2,x3,x4,x5,x6,x7⟩:=E7.out.told hc;have C3:=Hz (IH.out k2 a2 nm2 n2 s2 ls2 args2 arms2 A52 A62 A72 c52 c62 c72 _ _ _ (by have:=HN.out;omega) HS.out.2.1 hx2 hb (by have:=Bb HW3.out HL.out;omega));clear hc hx2;clear l0 l1 l2 l3 l4 l5 l6 l7;obtain⟨⟨l0,l1,l2,l3,l4,l5,l6,l7⟩,_⟩:=Ac (hb.at (Lm' ..));go_wp2_with fail;refine C3.out.mono ?_;rintro e w7 (⟨hok3,rfl,hb⟩| ⟨hok3,rfl,hf⟩)
 ·have HW4:=Hz (Ba HW3.out);go_wp2_with fail;refine(hb.add1 [125] _ (by have:=Bb HW4.out HL.out;omega)).mono ?_;rintro e w5 ⟨rfl,hb⟩;go_wp2_with fail
  go_end0
  exact Sd.done (by rw[← HP.out,hn,hok,hok3];rfl) (Dc (Ba HW4.out)) hb.drop
 ·go_wp2_with fail;exact⟨rfl,Sd.gave (by rw[← HP.out,hok3];simp) hf⟩):p:=h
theorem nn507(h:p:=by
 have HP:Hid (Eg nm=O):=Hz (by rw[← HO.out];simp[Bq,Ax,Bd]);have cN:=fun w hE=>Hz (Nf ⟨nm.toArray⟩ (by simp[ByteArray.size];omega) w hE)
 have kqq97:=@Hz _ @nn270;exact qq97):p:=h
theorem nn508(h:p:=by
 have HP:Hid (Aw nm=O):=Hz (by rw[← HO.out];simp[Bq,Ax,Bd]);have cN:=fun w hE=>Hz (Fx ⟨nm.toArray⟩ (by simp[ByteArray.size];omega) w hE)
 have kqq97:=@Hz _ @nn271;exact qq97):p:=h
theorem nn525(h:p:=by
 have HW:Hid (l++(Ir n++[])=M):=Hz (by rw[← HM.out];simp[txE,E4,Bj,Dp]);have HP:Hid ((n==0||n==1)=O):=Hz (by rw[← HO.out];simp[Bq,Ax,Bd])
 cases hn:(n==0||n==1)with
 | false =>
  have cT:=fun w=>Hz (Yz n hn w)
  rw[hn] at HP;clear hn;go_wp2_with fail;refine(cT _).out.mono ?_;rintro e w6 ⟨rfl,hf⟩;go_wp2_with fail
  exact⟨rfl,Sd.gave HP.out.symm (hb.frame.trans hf)⟩
 | true =>
  have cT:=fun w=>Hz (Uq n hn w)
  rw[hn] at HP;clear hn;go_wp2_with fail;refine(cT _).out.mono ?_;rintro e w5 ⟨rfl,rfl⟩;exact qq264):p:=h
theorem nn526(h:p:=by
 have HW:Hid (l++(Lib.itoa n++[])=M):=Hz (by rw[← HM.out];simp[txE,E4,Bj,Dp]);have HP:Hid ((decide (0≤n)&&decide (n≤Ff))=O):=Hz (by rw[← HO.out];simp[Bq,Ax,Bd]);have cT:=fun w hE=>Hz (We n hs2.1 hs2.2 w hE)
 clear hs2;by_cases h3:0≤n
 ·by_cases h4:n≤Ff
  ·have hp:O=true:=by rw[← HP.out];simp[h3,h4]
   unfold Ff at h4;subst hp;clear HP HO;go_wp2_with fail;refine(must_yes _).mono ?_;rintro e w6 ⟨rfl,rfl⟩;go_wp2_with fail;refine(cT _ (HV.out.fr hb.frame).env).out.mono ?_;rintro e w5 ⟨rfl,hf⟩;replace hb:=hb.fr hf;clear hf l0 l1 l2 l3 l4 l5 l6 l7;exact qq179
  ·have hp:O=false:=by rw[← HP.out];simp[h4]
   unfold Ff at h4;subst hp;clear HP HO;have h4':decide (n≤4611686018427387903)=false:=by simp;omega
   go_wp2_with fail;exact qq163
 ·have hp:O=false:=by rw[← HP.out];simp[h3]
  subst hp;clear HP HO;go_wp2_with fail;exact qq163):p:=h
theorem nn550(h:p:=by
 obtain⟨⟨l0,l1,l2,l3,l4,l5,l6,l7⟩,_⟩:=Ac (hb.at (Lm' ..));have hTw:=Aa (hb.at (Lm' ..));replace hb:=hb.new (.cells #[vI k2,vI a2,vS nm2,vI n2,vS s2,.slice A52 ls2.length c52,.slice A62 args2.length c62,.slice A72 arms2.length c72] 27);have cL:=fun rz W hW=>Hz (Tv w0 P rz m y i oM hyl hml W HV.out hW)
 go_wp2_with fail
 generalize wr.heap.size=Tx at *
 refine(cL _ _ hb).out.mono ?_;rintro e w3 (⟨hok1,rfl,hb⟩| ⟨hok1,rfl,hf⟩)
 ·clear l0 l1 l2 l3 l4 l5 l6 l7;clear x0 x1 x2 x3 x4 x5 x6 x7 y0 cL;have kqq187:=@Hz _ @nn388;exact qq187
 ·go_wp2_with fail;exact⟨rfl,Sd.gave (by rw[← HO1.out,hok1];simp) hf⟩):p:=h
theorem nn571(h:p:=by
 have HV:=Hz hV;have HB:=Hz hB;have HN:=Hz hN;have HS:=Hz hs;have HX:=Hz hx;have HH:=Hz hh;have HR:=Hz hr;have IH:=Hz ih;have HI:Hid (∀ k,k≠1∧k≠6∧k≠2∧k≠3∧k≠4∧k≠5∧k≠14∧k≠12∧k≠13→IC1 w0 ok P (N+1) k):=Hz hI;clear hM hO hl hh hr hV hB hN hs hx ih hI;have kqq167:=@Hz _ @nn372;exact qq167):p:=h
theorem nn640(h:p:=by
 have C2:=Hz (IH.out k2 a2 nm2 n2 s2 ls2 args2 arms2 A52 A62 A72 c52 c62 c72 _ _ _ (by have:=HN.out;omega) HS.out hx2 hb (by have:=Bb HW.out HL.out;omega));clear hc hx2;have kqq249:=@Hz _ @nn490;exact qq249):p:=h
theorem nn641(h:p:=by
 have C2:=Hz (IH.out k2 a2 nm2 n2 s2 ls2 args2 arms2 A52 A62 A72 c52 c62 c72 _ _ _ (by have:=HN.out;omega) HS.out.1 hx2 hb (by have:=Bb HW1.out HL.out;omega));clear hc hx2;have kqq249:=@Hz _ @nn492;exact qq249):p:=h
theorem wexpr_step(w0:World)(ok:Nat→Prop)(P N:Nat)(hV:E1 w0)(hB:N≤1099511627775)(ih:EC w0 ok P N)(hI:∀ k,k≠1∧k≠6∧k≠2∧k≠3∧k≠4∧k≠5∧k≠14∧k≠12∧k≠13→IC1 w0 ok P (N+1) k):EC w0 ok P (N+1):=by
 intro k a nm n s ls args arms A5 A6 A7 c5 c6 c7 rs l wr hN hs hx hb hl;rw[← La'] at hl
 cases hh:Cc k n ls.length with
 | none =>
  rw[mayE_none hh]
  exact expr_none w0 ok P N k a nm n s ls args arms A5 A6 A7 c5 c6 c7 rs l _ wr hh hb
 | some h =>
 cases hr:Ah h nm n s ls.length args.length arms.length with
 | false =>
  rw[Rw hh hr]
  exact Zi w0 ok P N k a nm n s ls args arms A5 A6 A7 c5 c6 c7 rs l _ wr h hh hr hb
 | true =>
 have HO:=Hz (Rv (a:=a) (nm:=nm) (s:=s) (args:=args) (arms:=arms) hh hr).symm
 obtain⟨M,hM⟩:∃ M,l++txE (.mk k a nm n s ls args arms)=M:=⟨_,rfl⟩
 obtain⟨O,hO⟩:∃ O,Bh (.mk k a nm n s ls args arms)=O:=⟨_,rfl⟩
 rw[hM] at hl ⊢;rw[hO] at HO ⊢;have HM:=Hz hM;have HL:=Hz hl;have kqq314:=@Hz _ @nn571;exact qq314
end
theorem Wx(w0:World)(ok:Nat→Prop)(P:Nat)(hV:E1 w0):∀ N,N≤1099511627776→EC w0 ok P N
 | 0,_=>fun _ _ _ _ _ _ _ _ _ _ _ _ _ _ _ _ _ h=>absurd h (Nat.not_lt_zero _)
 | N+1,hN=>by
  have ih:=Wx w0 ok P hV N oM;have hP:=pat_all w0 ok P hV N oM;have hB:N≤1099511627775:=by omega
  refine wexpr_step w0 ok P N hV hB ih fun k hk=>?_
  intro a nm n s ls args arms A5 A6 A7 c5 c6 c7 rs l wr hN hs hx hR hb hl;obtain⟨h,hh,hr⟩:=hR
  have go:IC1 w0 ok P (N+1) k:=by
   rcases kind_of hh with⟨rfl,_⟩| rfl|rfl|rfl|rfl|rfl|rfl|rfl|rfl|rfl|rfl|rfl|rfl|rfl|rfl|rfl|rfl|rfl|rfl|rfl|rfl|rfl
   all_goals first
    | exact inner_7 w0 ok P N hV ih
    | exact inner_8 w0 ok P N hV ih
    | exact inner_9 w0 ok P N hV ih
    | exact inner_10 w0 ok P N hV ih
    | exact inner_11 w0 ok P N hV ih
    | exact inner_15 w0 ok P N hV ih
    | exact inner_16 w0 ok P N hB ih hP
    | exact inner_17 w0 ok P N hB ih hP
    | exact inner_18 w0 ok P N hV ih
    | exact inner_19 w0 ok P N ih
    | exact inner_20 w0 ok P N hV ih
    | exact inner_21 w0 ok P N hV ih
    | exact inner_22 w0 ok P N hV ih
    | (simp at hk)
  exact go a nm n s ls args arms A5 A6 A7 c5 c6 c7 rs l wr hN hs hx ⟨h,hh,hr⟩ hb hl
end Go.Proofs.YtlafbbnikgcdlaaGreatDoor
