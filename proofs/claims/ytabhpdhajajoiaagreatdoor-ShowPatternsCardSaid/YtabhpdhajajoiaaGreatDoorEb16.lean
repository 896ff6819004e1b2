/- A part of the proof: Vl, Vf, Vm. -/
import Derived.BigQuiet
import Derived.Deep.DrawnRows
import Derived.Deep.RegionHeld3
import Derived.Test.YtabhpdhajajoiaaGreatDoorEb13
import Derived.Test.YtabhpdhajajoiaaGreatDoorEb14
import Derived.Test.YtabhpdhajajoiaaGreatDoorEb15
namespace Go.Proofs.YtabhpdhajajoiaaGreatDoor
open Go.RowKit
open _root_.Go.Proofs.Tryz
set_option linter.all false
set_option maxHeartbeats 16000000
set_option maxRecDepth 100000
open List renaming length_cons→Lc',length_append→La',getElem?_eq_getElem→Lg',mem_cons_self→Lm',length_nil→Ln',append_assoc→Ls'
open Nat renaming le_refl→Nr'
section
attribute [local go_sem ↓] Go.wp_at_zero Go.wp_at_succ
theorem Rf{w0 W:World}{g o:Nat}(hg:g<w0.heap.size)(hf:Fr [] w0 W){v0 v1 v2 v3 v4 v5 v6 v7:Value}(hc:∀ (j:Nat)(v:Value),[v0,v1,v2,v3,v4,v5,v6,v7][j]?=some v→w0.cell? ⟨g,o+j,none⟩=some v):
  W.cell? ⟨g,o,none⟩=some v0∧W.cell? ⟨g,o+1,none⟩=some v1∧W.cell? ⟨g,o+2,none⟩=some v2∧W.cell? ⟨g,o+3,none⟩=some v3∧W.cell? ⟨g,o+4,none⟩=some v4∧W.cell? ⟨g,o+5,none⟩=some v5∧W.cell? ⟨g,o+6,none⟩=some v6∧W.cell? ⟨g,o+7,none⟩=some v7:=by
 have h:∀ (j:Nat) (v:Value),[v0,v1,v2,v3,v4,v5,v6,v7][j]?=some v→W.cell? ⟨g,o+j,none⟩=some v:=fun j v hv=>cellAt hg (hc j v hv) hf
 exact⟨h 0 _ rfl,h 1 _ rfl,h 2 _ rfl,h 3 _ rfl,h 4 _ rfl,h 5 _ rfl,h 6 _ rfl,h 7 _ rfl⟩
theorem rec_any(w0:World)(P:Nat)(hV:Dx w0)(a:Int)(nm:LB)(A5 A7:Option Addr)(c5 c6 c7:Nat)(k2 a2:Int)(nm2:LB)(n2:Int)(s2:LB)(ls2:List LB)(args2:List Ab)(arms2:List (Ak×Ab))(A52 A62 A72:Option Addr)(c52 c62 c72:Nat)(g o:Nat)(rs:List (Nat×Obj))(l M:LB)(wr:World)(hs1:nm.length≤65536)(hb:WB w0 P rs l wr)(hg:g<w0.heap.size)(O O1 O2:Bool)(T1 T2:LB)(hO:O=(As nm&&(k2==7)&&Ah ⟨true,false,false,false,1,false⟩ nm2 n2 s2 ls2.length args2.length arms2.length&&O1&&O2))(hW:k2=7→Ah ⟨true,false,false,false,1,false⟩ nm2 n2 s2 ls2.length args2.length arms2.length=true→l++(([108,101,116,32,114,101,99,32]++(nm++[32,61,32]))++(T1++T2))=M)(hL:M.length≤70368744177664)
  (hc:∀ (j:Nat) (v:Value),[vI k2,vI a2,vS nm2,vI n2,vS s2,.slice A52 ls2.length c52,.slice A62 args2.length c62,.slice A72 arms2.length c72][j]?=some v→w0.cell? ⟨g,o+j,none⟩=some v)
  (cI:k2=7→Ah ⟨true,false,false,false,1,false⟩ nm2 n2 s2 ls2.length args2.length arms2.length=true→∀ (w:World) (rz:List (Nat×Obj)) (l':LB),WB w0 P rz l' w→l'.length+T1.length≤70368744177664→Calls prog 72 #[.pointer (some ⟨P,0,none⟩),.agg #[vI 7,vI a2,vS nm2,vI n2,vS s2,.slice A52 ls2.length c52,.slice A62 args2.length c62,.slice A72 arms2.length c72]] w (Sd w0 P rz (l'++T1) O1))
  (cW:k2=7→Ah ⟨true,false,false,false,1,false⟩ nm2 n2 s2 ls2.length args2.length arms2.length=true→∀ (w:World) (rz:List (Nat×Obj)) (l':LB),WB w0 P rz l' w→l'++T2=M→Calls prog 106 #[.pointer (some ⟨P,0,none⟩),.slice (some ⟨g,o+8,none⟩) 1 (c6-1),.slice (some ⟨w.heap.size,0,none⟩) 1 1] (w.alloc (.cells #[.string ⟨#[32,105,110,32]⟩] 9)) (Sd w0 P rz M O2)) (hc6:2≤c6):
  Calls prog 72 #[.pointer (some ⟨P,0,none⟩),.agg #[vI 10,vI a,vS nm,vI 0,vE,.slice A5 0 c5,.slice (some ⟨g,o,none⟩) 2 c6,.slice A7 0 c7]] wr (Sd w0 P rs M O):=by
 have HV:=Hz hV;have HG:=Hz hg;have HC:=Hz hc;have hnz:(⟨nm.toArray⟩:ByteArray).size≤65536:=by simpa [ByteArray.size] using hs1
 have cN:=fun w hE=>Hz (Ew ⟨nm.toArray⟩ (by omega) w hE)
 clear hg hc hV;rw[(show(⟨nm.toArray⟩:ByteArray).data.toList=nm from rfl)] at cN;have cF:=fun W=>Hz (Jl 7 a2 nm2 n2 s2 A52 A62 A72 ls2.length args2.length arms2.length c52 c62 c72 ⟨true,false,false,false,1,false⟩ (by simp[Bt]) W)
 have cR:=fun W=>Hz (M1 ⟨true,false,false,false,1,false⟩ 7 a2 nm2 n2 s2 A52 A62 A72 ls2.length args2.length arms2.length c52 c62 c72 W)
 generalize As nm=nb at *
 generalize Ah ⟨true,false,false,false,1,false⟩ nm2 n2 s2 ls2.length args2.length arms2.length=rb at *
 have HO:=Hz hO;have HW:=Hz hW;have HL:=Hz hL;have CI:=Hz cI;have CW:=Hz cW;clear hO hW hL cI cW;have hb0:=hb.new (.cells #[vI 10,vI a,vS nm,vI 0,vE,.slice A5 0 c5,.slice (some ⟨g,o,none⟩) 2 c6,.slice A7 0 c7] 35);go_enter func72,ntmps72;go_wp2_with fail;have q0:=hb0.at (Lm' ..)
 generalize wr.alloc (.cells #[vI 10,vI a,vS nm,vI 0,vE,.slice A5 0 c5,.slice (some ⟨g,o,none⟩) 2 c6,.slice A7 0 c7] 35)=x at *
 generalize wr.heap.size=T at *
 obtain⟨⟨l0,l1,l2,l3,l4,l5,l6,l7⟩,_⟩:=Ac q0;obtain⟨x0,x1,x2,x3,x4,x5,x6,x7⟩:=Rf HG.out hb0.frame HC.out;refine wp_region_held_drew (S:=(fun w'=>(w'.cell? ⟨T,0,none⟩=some (vI 10)∧w'.cell? ⟨T,1,none⟩=some (vI a)∧w'.cell? ⟨T,2,none⟩=some (vS nm)∧w'.cell? ⟨T,3,none⟩=some (vI 0)∧w'.cell? ⟨T,4,none⟩=some (vE)∧w'.cell? ⟨T,5,none⟩=some (.slice A5 0 c5)∧w'.cell? ⟨T,6,none⟩=some (.slice (some ⟨g,o,none⟩) 2 c6)∧w'.cell? ⟨T,7,none⟩=some (.slice A7 0 c7))∧w'.cell? ⟨g,o,none⟩=some (vI k2)∧w'.cell? ⟨g,o+1,none⟩=some (vI a2)∧w'.cell? ⟨g,o+2,none⟩=some (vS nm2)∧w'.cell? ⟨g,o+3,none⟩=some (vI n2)∧w'.cell? ⟨g,o+4,none⟩=some (vS s2)∧w'.cell? ⟨g,o+5,none⟩=some (.slice A52 ls2.length c52)∧w'.cell? ⟨g,o+6,none⟩=some (.slice A62 args2.length c62)∧w'.cell? ⟨g,o+7,none⟩=some (.slice A72 arms2.length c72))) (by kernel_rfl) ?_ (fun hHeld=>?_)
 ·exact⟨⟨l0,l1,l2,l3,l4,l5,l6,l7⟩,x0,x1,x2,x3,x4,x5,x6,x7⟩
 refine tk1 0 (oi:={ dst:=some 51,op:=_,type:=_,pos:=_,after:=_,guard:=_ }) (v:=?_) rfl (by rfl) ?_ ?_
 rotate_left
 ·intro w hSw;(try dsimp only at hSw);go_simp;(try with_reducible rfl)
 try simp only[Act.put,sX]
 refine tk1 1 (oi:={ dst:=some 52,op:=_,type:=_,pos:=_,after:=_,guard:=_ }) (v:=?_) rfl (by rfl) ?_ ?_
 rotate_left
 ·intro w hSw;(try dsimp only at hSw);go_simp;(try with_reducible rfl)
 try simp only[Act.put,sX]
 refine tkc 2 (oi:={ dst:=some 53,op:=_,type:=_,pos:=_,after:=_,guard:=_ }) rfl (fun K hK=>?_);go_simp;refine(cN _ (HV.out.fr (hb0.fr (Fr.refl [] x).drew).frame)).out.mono ?_;rintro e w2 ⟨rfl,f2⟩;go_simp;replace f2:=((Fr.refl [] x).drew).trans f2;replace q0:=f2.keep q0 nE;replace hb0:=hb0.fr f2;clear l0 l1 l2 l3 l4 l5 l6 l7 x0 x1 x2 x3 x4 x5 x6 x7 hHeld;obtain⟨⟨l0,l1,l2,l3,l4,l5,l6,l7⟩,_⟩:=Ac q0;obtain⟨x0,x1,x2,x3,x4,x5,x6,x7⟩:=Rf HG.out hb0.frame HC.out
 cases nb with
 | false =>
  refine hK.out _ _ ?_ (fun hHeld=>?_)
  ·exact⟨⟨l0,l1,l2,l3,l4,l5,l6,l7⟩,x0,x1,x2,x3,x4,x5,x6,x7⟩
  clear hK K
  try simp only[Act.put,sX]
  refine tk1 3 (oi:={ dst:=some 54,op:=_,type:=_,pos:=_,after:=_,guard:=_ }) (v:=?_) rfl (by rfl) ?_ ?_
  rotate_left
  ·intro w hSw;(try dsimp only at hSw);go_simp;(try with_reducible rfl)
  try simp only[Act.put,sX]
  refine tk0 4 (oi:={ dst:=some 55,op:=_,type:=_,pos:=_,after:=_,guard:=_ }) rfl (by rfl) ?_
  try simp only[Act.put,sX]
  refine tk0 5 (oi:={ dst:=some 56,op:=_,type:=_,pos:=_,after:=_,guard:=_ }) rfl (by rfl) ?_
  try simp only[Act.put,sX]
  refine tk0 6 (oi:={ dst:=some 57,op:=_,type:=_,pos:=_,after:=_,guard:=_ }) rfl (by rfl) ?_
  try simp only[Act.put,sX]
  refine tk0 7 (oi:={ dst:=some 58,op:=_,type:=_,pos:=_,after:=_,guard:=_ }) rfl (by rfl) ?_
  try simp only[Act.put,sX]
  refine tk0 8 (oi:={ dst:=some 59,op:=_,type:=_,pos:=_,after:=_,guard:=_ }) rfl (by rfl) ?_
  try simp only[Act.put,sX]
  refine tk0 9 (oi:={ dst:=some 60,op:=_,type:=_,pos:=_,after:=_,guard:=_ }) rfl (by rfl) ?_
  try simp only[Act.put,sX]
  refine tk1 10 (oi:={ dst:=some 61,op:=_,type:=_,pos:=_,after:=_,guard:=_ }) (v:=?_) rfl (by rfl) ?_ ?_
  rotate_left
  ·intro w hSw;(try dsimp only at hSw);go_simp;(try with_reducible rfl)
  try simp only[Act.put,sX]
  refine tk1 11 (oi:={ dst:=some 62,op:=_,type:=_,pos:=_,after:=_,guard:=_ }) (v:=?_) rfl (by rfl) ?_ ?_
  rotate_left
  ·intro w hSw;(try dsimp only at hSw);go_simp;(try with_reducible rfl)
  try simp only[Act.put,sX]
  refine tk0 12 (oi:={ dst:=some 63,op:=_,type:=_,pos:=_,after:=_,guard:=_ }) rfl (by rfl) ?_
  try simp only[Act.put,sX]
  refine tk0 13 (oi:={ dst:=some 64,op:=_,type:=_,pos:=_,after:=_,guard:=_ }) rfl (by rfl) ?_
  try simp only[Act.put,sX]
  refine tk0 14 (oi:={ dst:=some 65,op:=_,type:=_,pos:=_,after:=_,guard:=_ }) rfl (by rfl) ?_
  try simp only[Act.put,sX]
  refine tk0 15 (oi:={ dst:=some 66,op:=_,type:=_,pos:=_,after:=_,guard:=_ }) rfl (by rfl) ?_
  try simp only[Act.put,sX]
  refine tk0 16 (oi:={ dst:=some 67,op:=_,type:=_,pos:=_,after:=_,guard:=_ }) rfl (by rfl) ?_
  try simp only[Act.put,sX]
  refine tk0 17 (oi:={ dst:=some 68,op:=_,type:=_,pos:=_,after:=_,guard:=_ }) rfl (by rfl) ?_
  try simp only[Act.put,sX]
  refine tk0 18 (oi:={ dst:=some 69,op:=_,type:=_,pos:=_,after:=_,guard:=_ }) rfl (by rfl) ?_
  try simp only[Act.put,sX]
  refine tk0 19 (oi:={ dst:=some 70,op:=_,type:=_,pos:=_,after:=_,guard:=_ }) rfl (by rfl) ?_
  try simp only[Act.put,sX]
  refine tk0 20 (oi:={ dst:=some 71,op:=_,type:=_,pos:=_,after:=_,guard:=_ }) rfl (by rfl) ?_
  try simp only[Act.put,sX]
  refine tk0 21 (oi:={ dst:=some 72,op:=_,type:=_,pos:=_,after:=_,guard:=_ }) rfl (by rfl) ?_
  try simp only[Act.put,sX]
  refine tk1 22 (oi:={ dst:=some 73,op:=_,type:=_,pos:=_,after:=_,guard:=_ }) (v:=?_) rfl (by rfl) ?_ ?_
  rotate_left
  ·intro w hSw;(try dsimp only at hSw);go_simp;(try with_reducible rfl)
  try simp only[Act.put,sX]
  refine tkc 23 (oi:={ dst:=some 74,op:=_,type:=_,pos:=_,after:=_,guard:=_ }) rfl (fun K hK=>?_)
  go_simp;refine(must_no _).mono ?_;rintro e w4 ⟨rfl,f4⟩;go_simp;exact⟨rfl,Sd.gave (by rw[HO.out];rfl) (hb0.frame.trans f4)⟩
 | true =>
 by_cases hk:k2=7
 rotate_left
 ·have z7:(k2==7)=false:=by rw[bN];exact hk
  refine hK.out _ _ ?_ (fun hHeld=>?_)
  ·exact⟨⟨l0,l1,l2,l3,l4,l5,l6,l7⟩,x0,x1,x2,x3,x4,x5,x6,x7⟩
  clear hK K
  try simp only[Act.put,sX]
  refine tk1 3 (oi:={ dst:=some 54,op:=_,type:=_,pos:=_,after:=_,guard:=_ }) (v:=?_) rfl (by rfl) ?_ ?_
  rotate_left
  ·intro w hSw;(try dsimp only at hSw);go_simp;(try with_reducible rfl)
  try simp only[Act.put,sX]
  refine tk1 4 (oi:={ dst:=some 55,op:=_,type:=_,pos:=_,after:=_,guard:=_ }) (v:=?_) rfl (by rfl) ?_ ?_
  rotate_left
  ·intro w hSw;(try dsimp only at hSw);go_simp;(try with_reducible rfl)
  try simp only[Act.put,sX]
  refine tk1 5 (oi:={ dst:=some 56,op:=_,type:=_,pos:=_,after:=_,guard:=_ }) (v:=?_) rfl (by rfl) ?_ ?_
  rotate_left
  ·intro w hSw;(try dsimp only at hSw);go_simp;(try with_reducible rfl)
  try simp only[Act.put,sX]
  refine tk1 6 (oi:={ dst:=some 57,op:=_,type:=_,pos:=_,after:=_,guard:=_ }) (v:=?_) rfl (by rfl) ?_ ?_
  rotate_left
  ·intro w hSw;(try dsimp only at hSw);go_simp;(try with_reducible rfl)
  try simp only[Act.put,sX]
  refine tk1 7 (oi:={ dst:=some 58,op:=_,type:=_,pos:=_,after:=_,guard:=_ }) (v:=?_) rfl (by rfl) ?_ ?_
  rotate_left
  ·intro w hSw;(try dsimp only at hSw);go_simp;(try with_reducible rfl)
  try simp only[Act.put,sX]
  refine tk1 8 (oi:={ dst:=some 59,op:=_,type:=_,pos:=_,after:=_,guard:=_ }) (v:=?_) rfl (by rfl) ?_ ?_
  rotate_left
  ·intro w hSw;(try dsimp only at hSw);go_simp;(try with_reducible rfl)
  try simp only[Act.put,sX]
  refine tk1 9 (oi:={ dst:=some 60,op:=_,type:=_,pos:=_,after:=_,guard:=_ }) (v:=?_) rfl (by rfl) ?_ ?_
  rotate_left
  ·intro w hSw;(try dsimp only at hSw);go_simp;(try with_reducible rfl)
  try simp only[Act.put,sX]
  refine tk1 10 (oi:={ dst:=some 61,op:=_,type:=_,pos:=_,after:=_,guard:=_ }) (v:=?_) rfl (by rfl) ?_ ?_
  rotate_left
  ·intro w hSw;(try dsimp only at hSw);go_simp;(try with_reducible rfl)
  try simp only[Act.put,sX]
  refine tk1 11 (oi:={ dst:=some 62,op:=_,type:=_,pos:=_,after:=_,guard:=_ }) (v:=?_) rfl (by rfl) ?_ ?_
  rotate_left
  ·intro w hSw;(try dsimp only at hSw);go_simp;(try with_reducible rfl)
  try simp only[Act.put,sX]
  refine tk0 12 (oi:={ dst:=some 63,op:=_,type:=_,pos:=_,after:=_,guard:=_ }) rfl (by rfl) ?_
  try simp only[Act.put,sX]
  refine tk0 13 (oi:={ dst:=some 64,op:=_,type:=_,pos:=_,after:=_,guard:=_ }) rfl (by rfl) ?_
  try simp only[Act.put,sX]
  refine tk0 14 (oi:={ dst:=some 65,op:=_,type:=_,pos:=_,after:=_,guard:=_ }) rfl (by rfl) ?_
  try simp only[Act.put,sX]
  refine tk0 15 (oi:={ dst:=some 66,op:=_,type:=_,pos:=_,after:=_,guard:=_ }) rfl (by rfl) ?_
  try simp only[Act.put,sX]
  refine tk0 16 (oi:={ dst:=some 67,op:=_,type:=_,pos:=_,after:=_,guard:=_ }) rfl (by rfl) ?_
  try simp only[Act.put,sX]
  refine tk0 17 (oi:={ dst:=some 68,op:=_,type:=_,pos:=_,after:=_,guard:=_ }) rfl (by rfl) ?_
  try simp only[Act.put,sX]
  refine tk0 18 (oi:={ dst:=some 69,op:=_,type:=_,pos:=_,after:=_,guard:=_ }) rfl (by rfl) ?_
  try simp only[Act.put,sX]
  refine tk0 19 (oi:={ dst:=some 70,op:=_,type:=_,pos:=_,after:=_,guard:=_ }) rfl (by rfl) ?_
  try simp only[Act.put,sX]
  refine tk0 20 (oi:={ dst:=some 71,op:=_,type:=_,pos:=_,after:=_,guard:=_ }) rfl (by rfl) ?_
  try simp only[Act.put,sX]
  refine tk0 21 (oi:={ dst:=some 72,op:=_,type:=_,pos:=_,after:=_,guard:=_ }) rfl (by rfl) ?_
  try simp only[Act.put,sX]
  refine tk1 22 (oi:={ dst:=some 73,op:=_,type:=_,pos:=_,after:=_,guard:=_ }) (v:=?_) rfl (by rfl) ?_ ?_
  rotate_left
  ·intro w hSw;(try dsimp only at hSw);go_simp;(try with_reducible rfl)
  try simp only[Act.put,sX]
  refine tkc 23 (oi:={ dst:=some 74,op:=_,type:=_,pos:=_,after:=_,guard:=_ }) rfl (fun K hK=>?_);go_simp;refine(must_no _).mono ?_;rintro e w4 ⟨rfl,f4⟩;go_simp;exact⟨rfl,Sd.gave (by rw[HO.out,z7];rfl) (hb0.frame.trans f4)⟩
 subst hk;refine hK.out _ _ ?_ (fun hHeld=>?_)
 ·exact⟨⟨l0,l1,l2,l3,l4,l5,l6,l7⟩,x0,x1,x2,x3,x4,x5,x6,x7⟩
 clear hK K
 try simp only[Act.put,sX]
 refine tk1 3 (oi:={ dst:=some 54,op:=_,type:=_,pos:=_,after:=_,guard:=_ }) (v:=?_) rfl (by rfl) ?_ ?_
 rotate_left
 ·intro w hSw;(try dsimp only at hSw);go_simp;(try with_reducible rfl)
 try simp only[Act.put,sX]
 refine tk1 4 (oi:={ dst:=some 55,op:=_,type:=_,pos:=_,after:=_,guard:=_ }) (v:=?_) rfl (by rfl) ?_ ?_
 rotate_left
 ·intro w hSw;(try dsimp only at hSw);go_simp;(try with_reducible rfl)
 try simp only[Act.put,sX]
 refine tk1 5 (oi:={ dst:=some 56,op:=_,type:=_,pos:=_,after:=_,guard:=_ }) (v:=?_) rfl (by rfl) ?_ ?_
 rotate_left
 ·intro w hSw;(try dsimp only at hSw);go_simp;(try with_reducible rfl)
 try simp only[Act.put,sX]
 refine tk1 6 (oi:={ dst:=some 57,op:=_,type:=_,pos:=_,after:=_,guard:=_ }) (v:=?_) rfl (by rfl) ?_ ?_
 rotate_left
 ·intro w hSw;(try dsimp only at hSw);go_simp;(try with_reducible rfl)
 try simp only[Act.put,sX]
 refine tk1 7 (oi:={ dst:=some 58,op:=_,type:=_,pos:=_,after:=_,guard:=_ }) (v:=?_) rfl (by rfl) ?_ ?_
 rotate_left
 ·intro w hSw;(try dsimp only at hSw);go_simp;(try with_reducible rfl)
 try simp only[Act.put,sX]
 refine tk1 8 (oi:={ dst:=some 59,op:=_,type:=_,pos:=_,after:=_,guard:=_ }) (v:=?_) rfl (by rfl) ?_ ?_
 rotate_left
 ·intro w hSw;(try dsimp only at hSw);go_simp;(try with_reducible rfl)
 try simp only[Act.put,sX]
 refine tk1 9 (oi:={ dst:=some 60,op:=_,type:=_,pos:=_,after:=_,guard:=_ }) (v:=?_) rfl (by rfl) ?_ ?_
 rotate_left
 ·intro w hSw;(try dsimp only at hSw);go_simp;(try with_reducible rfl)
 try simp only[Act.put,sX]
 refine tk1 10 (oi:={ dst:=some 61,op:=_,type:=_,pos:=_,after:=_,guard:=_ }) (v:=?_) rfl (by rfl) ?_ ?_
 rotate_left
 ·intro w hSw;(try dsimp only at hSw);go_simp;(try with_reducible rfl)
 try simp only[Act.put,sX]
 refine tk1 11 (oi:={ dst:=some 62,op:=_,type:=_,pos:=_,after:=_,guard:=_ }) (v:=?_) rfl (by rfl) ?_ ?_
 rotate_left
 ·intro w hSw;(try dsimp only at hSw);go_simp;(try with_reducible rfl)
 try simp only[Act.put,sX]
 refine tk1 12 (oi:={ dst:=some 63,op:=_,type:=_,pos:=_,after:=_,guard:=_ }) (v:=?_) rfl (by rfl) ?_ ?_
 rotate_left
 ·intro w hSw;(try dsimp only at hSw);go_simp;(try with_reducible rfl)
 try simp only[Act.put,sX]
 refine tk1 13 (oi:={ dst:=some 64,op:=_,type:=_,pos:=_,after:=_,guard:=_ }) (v:=?_) rfl (by rfl) ?_ ?_
 rotate_left
 ·intro w hSw;(try dsimp only at hSw);go_simp;(try with_reducible rfl)
 try simp only[Act.put,sX]
 refine tk1 14 (oi:={ dst:=some 65,op:=_,type:=_,pos:=_,after:=_,guard:=_ }) (v:=?_) rfl (by rfl) ?_ ?_
 rotate_left
 ·intro w hSw;(try dsimp only at hSw);go_simp;(try with_reducible rfl)
 try simp only[Act.put,sX]
 refine tk1 15 (oi:={ dst:=some 66,op:=_,type:=_,pos:=_,after:=_,guard:=_ }) (v:=?_) rfl (by rfl) ?_ ?_
 rotate_left
 ·intro w hSw;(try dsimp only at hSw);go_simp;(try with_reducible rfl)
 try simp only[Act.put,sX]
 refine tk1 17 (oi:={ dst:=some 68,op:=_,type:=_,pos:=_,after:=_,guard:=_ }) (v:=?_) rfl (by rfl) ?_ ?_
 rotate_left
 ·intro w hSw;(try dsimp only at hSw);go_simp;(try with_reducible rfl)
 try simp only[Act.put,sX]
 refine tk1 18 (oi:={ dst:=some 69,op:=_,type:=_,pos:=_,after:=_,guard:=_ }) (v:=?_) rfl (by rfl) ?_ ?_
 rotate_left
 ·intro w hSw;(try dsimp only at hSw);go_simp;(try with_reducible rfl)
 try simp only[Act.put,sX]
 refine tk1 19 (oi:={ dst:=some 70,op:=_,type:=_,pos:=_,after:=_,guard:=_ }) (v:=?_) rfl (by rfl) ?_ ?_
 rotate_left
 ·intro w hSw;(try dsimp only at hSw);go_simp;(try with_reducible rfl)
 try simp only[Act.put,sX]
 refine tk1 20 (oi:={ dst:=some 71,op:=_,type:=_,pos:=_,after:=_,guard:=_ }) (v:=?_) rfl (by rfl) ?_ ?_
 rotate_left
 ·intro w hSw;(try dsimp only at hSw);go_simp;(try with_reducible rfl)
 try simp only[Act.put,sX]
 refine tkc 16 (oi:={ dst:=some 67,op:=_,type:=_,pos:=_,after:=_,guard:=_ }) rfl (fun K hK=>?_);go_simp;refine(cF _).out.mono ?_;rintro e w3 ⟨rfl,f3⟩;go_simp;replace q0:=f3.keep q0 nE;replace hb0:=hb0.fr f3;clear l0 l1 l2 l3 l4 l5 l6 l7 x0 x1 x2 x3 x4 x5 x6 x7 hHeld;obtain⟨⟨l0,l1,l2,l3,l4,l5,l6,l7⟩,_⟩:=Ac q0;obtain⟨x0,x1,x2,x3,x4,x5,x6,x7⟩:=Rf HG.out hb0.frame HC.out;refine hK.out _ _ ?_ (fun hHeld=>?_)
 ·exact⟨⟨l0,l1,l2,l3,l4,l5,l6,l7⟩,x0,x1,x2,x3,x4,x5,x6,x7⟩
 clear hK K
 try simp only[Act.put,sX]
 refine tkc 21 (oi:={ dst:=some 72,op:=_,type:=_,pos:=_,after:=_,guard:=_ }) rfl (fun K hK=>?_);go_simp;refine(cR _).out.mono ?_;rintro e w4 ⟨rfl,f4⟩;go_simp;replace q0:=f4.keep q0 nE;replace hb0:=hb0.fr f4;clear l0 l1 l2 l3 l4 l5 l6 l7 x0 x1 x2 x3 x4 x5 x6 x7 hHeld;obtain⟨⟨l0,l1,l2,l3,l4,l5,l6,l7⟩,_⟩:=Ac q0;obtain⟨x0,x1,x2,x3,x4,x5,x6,x7⟩:=Rf HG.out hb0.frame HC.out
 cases rb with
 | false =>
  refine hK.out _ _ ?_ (fun hHeld=>?_)
  ·exact⟨⟨l0,l1,l2,l3,l4,l5,l6,l7⟩,x0,x1,x2,x3,x4,x5,x6,x7⟩
  clear hK K
  try simp only[Act.put,sX]
  refine tk1 22 (oi:={ dst:=some 73,op:=_,type:=_,pos:=_,after:=_,guard:=_ }) (v:=?_) rfl (by rfl) ?_ ?_
  rotate_left
  ·intro w hSw;(try dsimp only at hSw);go_simp;(try with_reducible rfl)
  try simp only[Act.put,sX]
  refine tkc 23 (oi:={ dst:=some 74,op:=_,type:=_,pos:=_,after:=_,guard:=_ }) rfl (fun K hK=>?_)
  go_simp;refine(must_no _).mono ?_;rintro e w4 ⟨rfl,f4⟩;go_simp;exact⟨rfl,Sd.gave (by rw[HO.out];simp) (hb0.frame.trans f4)⟩
 | true =>
 refine hK.out _ _ ?_ (fun hHeld=>?_)
 ·exact⟨⟨l0,l1,l2,l3,l4,l5,l6,l7⟩,x0,x1,x2,x3,x4,x5,x6,x7⟩
 clear hK K
 try simp only[Act.put,sX]
 refine tk1 22 (oi:={ dst:=some 73,op:=_,type:=_,pos:=_,after:=_,guard:=_ }) (v:=?_) rfl (by rfl) ?_ ?_
 rotate_left
 ·intro w hSw;(try dsimp only at hSw);go_simp;(try with_reducible rfl)
 try simp only[Act.put,sX]
 refine tkc 23 (oi:={ dst:=some 74,op:=_,type:=_,pos:=_,after:=_,guard:=_ }) rfl (fun K hK=>?_);go_simp;refine(must_yes _).mono ?_;rintro e w5 ⟨rfl,rfl⟩;go_simp;refine hK.out _ _ ?_ (fun hHeld=>?_)
 ·exact⟨⟨l0,l1,l2,l3,l4,l5,l6,l7⟩,x0,x1,x2,x3,x4,x5,x6,x7⟩
 clear hK K
 try simp only[Act.put,sX]
 refine wpAnyH_done (by kernel_rfl) ?_ _;replace HW:=Hz (HW.out rfl rfl);replace CI:=Hz (CI.out rfl rfl);replace CW:=Hz (CW.out rfl rfl);replace HO:Hid (O=(O1&&O2)):=Hz (by rw[HO.out];rfl);replace hb:=hb0;clear hb0 f2 f3 q0 cF cR cN hHeld;go_wp2_with fail;refine(hb.add3 [108,101,116,32,114,101,99,32] nm [32,61,32] _ (by have:=Ax HW.out HL.out;omega)).mono ?_;rintro e w6 ⟨rfl,hb⟩;have HW1:=Hz (Aw HW.out);clear l0 l1 l2 l3 l4 l5 l6 l7 x0 x1 x2 x3 x4 x5 x6 x7;obtain⟨⟨l0,l1,l2,l3,l4,l5,l6,l7⟩,_⟩:=Ac (hb.at (Lm' ..));obtain⟨x0,x1,x2,x3,x4,x5,x6,x7⟩:=Rf HG.out hb.frame HC.out;go_wp2_with fail;refine(CI.out _ _ _ hb (by have:=Ax HW1.out HL.out;omega)).mono ?_;rintro e w7 (⟨hok1,rfl,hb⟩| ⟨hok1,rfl,hf⟩)
 ·have HW2:=Hz (Aw HW1.out);clear l0 l1 l2 l3 l4 l5 l6 l7 x0 x1 x2 x3 x4 x5 x6 x7;obtain⟨⟨l0,l1,l2,l3,l4,l5,l6,l7⟩,_⟩:=Ac (hb.at (Lm' ..));obtain⟨x0,x1,x2,x3,x4,x5,x6,x7⟩:=Rf HG.out hb.frame HC.out;have hc7:(2:Int)≤(c6:Int):=by omega
  go_wp2_with fail;refine(CW.out _ _ _ hb HW2.out).mono ?_;rintro e w8 (⟨hok,rfl,hb⟩| ⟨hok,rfl,hf⟩)
  ·go_wp2_with fail
   go_end0
   exact Sd.done (by rw[HO.out,hok1,hok];rfl) rfl hb.drop
  ·go_wp2_with fail;exact⟨rfl,Sd.gave (by rw[HO.out,hok];simp) hf⟩
 ·go_wp2_with fail;exact⟨rfl,Sd.gave (by rw[HO.out,hok1];rfl) hf⟩
theorem of_eight{w0:World}{g o:Nat}{v0 v1 v2 v3 v4 v5 v6 v7:Value}(h:w0.cell? ⟨g,o,none⟩=some v0∧w0.cell? ⟨g,o+1,none⟩=some v1∧w0.cell? ⟨g,o+2,none⟩=some v2∧w0.cell? ⟨g,o+3,none⟩=some v3∧w0.cell? ⟨g,o+4,none⟩=some v4∧w0.cell? ⟨g,o+5,none⟩=some v5∧w0.cell? ⟨g,o+6,none⟩=some v6∧w0.cell? ⟨g,o+7,none⟩=some v7):
  ∀ (j:Nat) (v:Value),[v0,v1,v2,v3,v4,v5,v6,v7][j]?=some v→w0.cell? ⟨g,o+j,none⟩=some v:=by
 obtain⟨h0,h1,h2,h3,h4,h5,h6,h7⟩:=h;intro j v h
 match j,h with
 | 0,h=>cases h;exact h0
 | 1,h=>cases h;exact h1
 | 2,h=>cases h;exact h2
 | 3,h=>cases h;exact h3
 | 4,h=>cases h;exact h4
 | 5,h=>cases h;exact h5
 | 6,h=>cases h;exact h6
 | 7,h=>cases h;exact h7
 | j+8,h=>simp at h
theorem inner_10(w0:World)(ok:Nat→Prop)(P N:Nat)(hV:Dx w0)(ih:EC w0 ok P N):IC1 w0 ok P (N+1) 10:=by
 intro a nm n s ls args arms A5 A6 A7 c5 c6 c7 rs l wr hN hs hx hR hb hl;obtain⟨⟨hs1,hs2,hs3,hs4⟩,hs5,hs6⟩:=hs;obtain⟨h,hh,hr⟩:=hR;simp[Bt] at hh;subst hh;have hfa:n=0∧s=[]∧ls=[]∧args.length=2∧arms=[]:=by simpa [Ah,and_assoc] using hr
 obtain⟨rfl,rfl,rfl,t,rfl⟩:=hfa;clear hr;obtain⟨x,y,rfl⟩:=Ib t;clear t;have hsz:szE (.mk 10 a nm 0 [] [] [x,y] [])=1+(szE x+szE y):=by simp[szE,B1,Cd]
 rw[hsz] at hN
 cases hx with
 | mk d5 d6 dp de h5 e5 h6 e6 h7 e7 e8 =>
 obtain⟨g,o,rfl,hg,hc⟩:=h6.elem (Fr.refl [] w0) (i:=0) (by simp);obtain⟨k2,a2,nm2,n2,s2,ls2,args2,arms2,A52,c52,A62,c62,A72,c72,rfl,hx2,hc8⟩:=(e6 0 x rfl).told (o:=o) (by simpa using hc);replace hc:=of_eight hc8;clear hc8;have h62:2≤c6:=h6.cap (by simp);have hh2:k2=7→Bt k2 n2 ls2.length=some ⟨true,false,false,false,1,false⟩:=fun hk=>by simp[Bt,hk]
 rw[← La'] at hl;refine rec_any w0 P hV a nm A5 A7 c5 c6 c7 k2 a2 nm2 n2 s2 ls2 args2 arms2 A52 A62 A72 c52 c62 c72 g o rs l _ wr hs1 hb hg _ (A9 7 nm2 n2 ls2 (Dp args2)&&Au args2&&A0 arms2) (Au [y]) (Bc 7 nm2 n2 (Az args2) (Cr arms2)) (E2 [[32,105,110,32]] (Az [y])) ?_ ?_ hl hc ?_ ?_ h62
 ·by_cases hk:k2=7
  ·cases hr:Ah ⟨true,false,false,false,1,false⟩ nm2 n2 s2 ls2.length args2.length arms2.length with
   | false=>simp[Au,Py (hh2 hk) hr]
   | true =>
    have e0:=Px (a:=a2) (hh2 hk) hr;subst hk;simp[A9,Dp,Au,A0,e0,Ab.k_,Bool.and_assoc]
  ·have z:(k2==7)=false:=by rw[bN];exact hk
   simp[A9,Dp,Ab.k_,z]
 ·intro hk hr
  have eI:Gb (txE (.mk k2 a2 nm2 n2 s2 ls2 args2 arms2))=Bc 7 nm2 n2 (Az args2) (Cr arms2):=by
   subst hk;rw[txE];show Gb (40::(Bc 7 nm2 n2 (Az args2) (Cr arms2)++[41]))=_;simp only[Gb,List.drop_succ_cons,List.drop_zero,List.dropLast_concat]
  rw[← eI]
  show _=l++([108,101,116,32,114,101,99,32]++(nm++([32,61,32]++(Gb (txE (.mk k2 a2 nm2 n2 s2 ls2 args2 arms2))++([32,105,110,32]++txE y)))))
  simp[E2,Az]
 ·intro hk hr w rz l' hb' hl';have hh:=hh2 hk;subst hk;exact Yk w0 ok P N hV ih a2 nm2 n2 s2 ls2 args2 arms2 A52 A62 A72 c52 c62 c72 rz l' w (by omega) hs5.1 hx2 ⟨_,hh,hr⟩ hb' hl'
 ·intro hk hr w rz l' hb' hM;exact WB.row ih (args:=[y]) (cs:=fun i=>d6 (i+1)) h6.tail (fun i x h=>e6 (i+1) x h) (by simp[B1];omega) ⟨hs5.2.1,trivial⟩ (by simp) hb' [[32,105,110,32]] 1 hM hl (by simp) (by simp)
theorem Zr(w0:World)(ok:Nat→Prop)(P N:Nat)(k a:Int)(nm:LB)(n:Int)(s:LB)(ls:List LB)(args:List Ab)(arms:List (Ak×Ab))(A5 A6 A7:Option Addr)(c5 c6 c7:Nat)(rs:List (Nat×Obj))(l M:LB)(wr:World)(hh:Bt k n ls.length=none)(hb:WB w0 P rs l wr):
  Calls prog 38 #[.pointer (some ⟨P,0,none⟩),.agg #[vI k,vI a,vS nm,vI n,vS s,.slice A5 ls.length c5,.slice A6 args.length c6,.slice A7 arms.length c7]] wr (Sd w0 P rs M false):=by
 have cF:=fun W=>Hz (Un k a nm n s A5 A6 A7 ls.length args.length arms.length c5 c6 c7 hh W)
 have hb0:=hb.new (.cells #[vI k,vI a,vS nm,vI n,vS s,.slice A5 ls.length c5,.slice A6 args.length c6,.slice A7 arms.length c7] 35);go_enter func38,ntmps38;go_wp2_with fail;have q0:=hb0.at (Lm' ..);refine wp_region_any (by kernel_rfl) ?_
 try(change wpAny _ _ _ _ _ _ _ (World.drew _))
 refine wpAny_ready (rs:=[0,2]) (by kernel_rfl) (by simp) ?_;refine(AllReady.cons rfl (fun K hK=>?_) (AllReady.cons rfl (fun K hK=>?_) AllReady.nil))
 ·go_simp;refine hK _ _ ?_;clear hK K;refine wpAny_ready (rs:=[1,2]) (by kernel_rfl) (by simp) ?_;refine(AllReady.cons rfl (fun K hK=>?_) (AllReady.cons rfl (fun K hK=>?_) AllReady.nil))
  ·go_simp;refine(cF _).out.mono ?_;rintro e w2 ⟨rfl,f2⟩;go_simp;exact⟨rfl,Sd.gave rfl (hb0.frame.trans ((show Fr [] _ _ by(repeat first|exact Fr.refl _ _|refine Fr.alloc ?_ _|refine Fr.drew ?_|refine Fr.setCell ?_ (.inr (by simp)) _)).trans f2))⟩
  ·go_simp;refine hK _ _ ?_;clear hK K;refine wpAny_ready (rs:=[1]) (by kernel_rfl) (by simp) ?_;refine(AllReady.cons rfl (fun K hK=>?_) AllReady.nil);go_simp;refine(cF _).out.mono ?_;rintro e w2 ⟨rfl,f2⟩;go_simp;exact⟨rfl,Sd.gave rfl (hb0.frame.trans ((show Fr [] _ _ by(repeat first|exact Fr.refl _ _|refine Fr.alloc ?_ _|refine Fr.drew ?_|refine Fr.setCell ?_ (.inr (by simp)) _)).trans f2))⟩
 ·go_simp;refine hK _ _ ?_;clear hK K;refine wpAny_ready (rs:=[0]) (by kernel_rfl) (by simp) ?_;refine(AllReady.cons rfl (fun K hK=>?_) AllReady.nil);go_simp;refine hK _ _ ?_;clear hK K;refine wpAny_ready (rs:=[1]) (by kernel_rfl) (by simp) ?_;refine(AllReady.cons rfl (fun K hK=>?_) AllReady.nil);go_simp;refine(cF _).out.mono ?_;rintro e w2 ⟨rfl,f2⟩;go_simp;exact⟨rfl,Sd.gave rfl (hb0.frame.trans ((show Fr [] _ _ by(repeat first|exact Fr.refl _ _|refine Fr.alloc ?_ _|refine Fr.drew ?_|refine Fr.setCell ?_ (.inr (by simp)) _)).trans f2))⟩
theorem Wq(w0:World)(ok:Nat→Prop)(P N:Nat)(k a:Int)(nm:LB)(n:Int)(s:LB)(ls:List LB)(args:List Ab)(arms:List (Ak×Ab))(A5 A6 A7:Option Addr)(c5 c6 c7:Nat)(rs:List (Nat×Obj))(l M:LB)(wr:World)(h:Ky)(hh:Bt k n ls.length=some h)(hr:Ah h nm n s ls.length args.length arms.length=false)(hb:WB w0 P rs l wr):
  Calls prog 38 #[.pointer (some ⟨P,0,none⟩),.agg #[vI k,vI a,vS nm,vI n,vS s,.slice A5 ls.length c5,.slice A6 args.length c6,.slice A7 arms.length c7]] wr (Sd w0 P rs M false):=by
 have cF:=fun W=>Hz (Jl k a nm n s A5 A6 A7 ls.length args.length arms.length c5 c6 c7 h hh W)
 have cR:=fun W=>Hz (M1 h k a nm n s A5 A6 A7 ls.length args.length arms.length c5 c6 c7 W)
 rw[hr] at cR;have hb0:=hb.new (.cells #[vI k,vI a,vS nm,vI n,vS s,.slice A5 ls.length c5,.slice A6 args.length c6,.slice A7 arms.length c7] 35);go_enter func38,ntmps38;go_wp2_with fail;have q0:=hb0.at (Lm' ..);refine wp_region_any (by kernel_rfl) ?_
 try(change wpAny _ _ _ _ _ _ _ (World.drew _))
 refine wpAny_ready (rs:=[0,2]) (by kernel_rfl) (by simp) ?_;refine(AllReady.cons rfl (fun K hK=>?_) (AllReady.cons rfl (fun K hK=>?_) AllReady.nil))
 ·go_simp;refine hK _ _ ?_;clear hK K;refine wpAny_ready (rs:=[1,2]) (by kernel_rfl) (by simp) ?_;refine(AllReady.cons rfl (fun K hK=>?_) (AllReady.cons rfl (fun K hK=>?_) AllReady.nil))
  ·go_simp;refine(cF _).out.mono ?_;rintro e w2 ⟨rfl,f2⟩;have q1:=f2.keep (show(World.drew _).heap[_]?=_ from q0) nE;obtain⟨⟨l0,l1,l2,l3,l4,l5,l6,l7⟩,_⟩:=Ac q1;go_simp;refine hK _ _ ?_;clear hK K;refine wpAny_ready (rs:=[2]) (by kernel_rfl) (by simp) ?_;refine(AllReady.cons rfl (fun K hK=>?_) AllReady.nil);go_simp;refine hK _ _ ?_;clear hK K;refine wpAny_ready (rs:=[3]) (by kernel_rfl) (by simp) ?_;refine(AllReady.cons rfl (fun K hK=>?_) AllReady.nil);go_simp;refine(cR _).out.mono ?_;rintro e w3 ⟨rfl,f3⟩;go_simp;refine hK _ _ ?_;clear hK K;refine wpAny_ready (rs:=[4]) (by kernel_rfl) (by simp) ?_;refine(AllReady.cons rfl (fun K hK=>?_) AllReady.nil);go_simp;refine(must_no _).mono ?_;rintro e w4 ⟨rfl,f4⟩;go_simp;exact⟨rfl,Sd.gave rfl (hb0.frame.trans ((((show Fr [] _ _ by(repeat first|exact Fr.refl _ _|refine Fr.alloc ?_ _|refine Fr.drew ?_|refine Fr.setCell ?_ (.inr (by simp)) _)).trans f2).trans f3).trans f4))⟩
  ·go_simp;refine hK _ _ ?_;clear hK K;refine wpAny_ready (rs:=[1]) (by kernel_rfl) (by simp) ?_;refine(AllReady.cons rfl (fun K hK=>?_) AllReady.nil);go_simp;refine(cF _).out.mono ?_;rintro e w2 ⟨rfl,f2⟩;have q1:=f2.keep (show(World.drew _).heap[_]?=_ from q0) nE;obtain⟨⟨l0,l1,l2,l3,l4,l5,l6,l7⟩,_⟩:=Ac q1;go_simp;refine hK _ _ ?_;clear hK K;refine wpAny_ready (rs:=[3]) (by kernel_rfl) (by simp) ?_;refine(AllReady.cons rfl (fun K hK=>?_) AllReady.nil);go_simp;refine(cR _).out.mono ?_;rintro e w3 ⟨rfl,f3⟩;go_simp;refine hK _ _ ?_;clear hK K;refine wpAny_ready (rs:=[4]) (by kernel_rfl) (by simp) ?_;refine(AllReady.cons rfl (fun K hK=>?_) AllReady.nil);go_simp;refine(must_no _).mono ?_;rintro e w4 ⟨rfl,f4⟩;go_simp;exact⟨rfl,Sd.gave rfl (hb0.frame.trans ((((show Fr [] _ _ by(repeat first|exact Fr.refl _ _|refine Fr.alloc ?_ _|refine Fr.drew ?_|refine Fr.setCell ?_ (.inr (by simp)) _)).trans f2).trans f3).trans f4))⟩
 ·go_simp;refine hK _ _ ?_;clear hK K;refine wpAny_ready (rs:=[0]) (by kernel_rfl) (by simp) ?_;refine(AllReady.cons rfl (fun K hK=>?_) AllReady.nil);go_simp;refine hK _ _ ?_;clear hK K;refine wpAny_ready (rs:=[1]) (by kernel_rfl) (by simp) ?_;refine(AllReady.cons rfl (fun K hK=>?_) AllReady.nil);go_simp;refine(cF _).out.mono ?_;rintro e w2 ⟨rfl,f2⟩;have q1:=f2.keep (show(World.drew _).heap[_]?=_ from q0) nE;obtain⟨⟨l0,l1,l2,l3,l4,l5,l6,l7⟩,_⟩:=Ac q1;go_simp;refine hK _ _ ?_;clear hK K;refine wpAny_ready (rs:=[3]) (by kernel_rfl) (by simp) ?_;refine(AllReady.cons rfl (fun K hK=>?_) AllReady.nil);go_simp;refine(cR _).out.mono ?_;rintro e w3 ⟨rfl,f3⟩;go_simp;refine hK _ _ ?_;clear hK K;refine wpAny_ready (rs:=[4]) (by kernel_rfl) (by simp) ?_;refine(AllReady.cons rfl (fun K hK=>?_) AllReady.nil);go_simp;refine(must_no _).mono ?_;rintro e w4 ⟨rfl,f4⟩;go_simp;exact⟨rfl,Sd.gave rfl (hb0.frame.trans ((((show Fr [] _ _ by(repeat first|exact Fr.refl _ _|refine Fr.alloc ?_ _|refine Fr.drew ?_|refine Fr.setCell ?_ (.inr (by simp)) _)).trans f2).trans f3).trans f4))⟩
theorem X7(w0:World)(ok:Nat→Prop)(P N:Nat)(hV:Dx w0)(hB:N≤1099511627775)(ih:EC w0 ok P N)(hI:∀ k,k≠1∧k≠6∧k≠2∧k≠3∧k≠4∧k≠5∧k≠14∧k≠12∧k≠13→IC1 w0 ok P (N+1) k):EC w0 ok P (N+1):=by
 intro k a nm n s ls args arms A5 A6 A7 c5 c6 c7 rs l wr hN hs hx hb hl;rw[← La'] at hl
 cases hh:Bt k n ls.length with
 | none =>
  rw[mayE_none hh]
  exact Zr w0 ok P N k a nm n s ls args arms A5 A6 A7 c5 c6 c7 rs l _ wr hh hb
 | some h =>
 cases hr:Ah h nm n s ls.length args.length arms.length with
 | false =>
  rw[Py hh hr]
  exact Wq w0 ok P N k a nm n s ls args arms A5 A6 A7 c5 c6 c7 rs l _ wr h hh hr hb
 | true =>
 have HO:=Hz (Px (a:=a) (nm:=nm) (s:=s) (args:=args) (arms:=arms) hh hr).symm
 obtain⟨M,hM⟩:∃ M,l++txE (.mk k a nm n s ls args arms)=M:=⟨_,rfl⟩
 obtain⟨O,hO⟩:∃ O,Be (.mk k a nm n s ls args arms)=O:=⟨_,rfl⟩
 rw[hM] at hl ⊢;rw[hO] at HO ⊢;have HM:=Hz hM;have HL:=Hz hl;have cF:=fun W=>Hz (Jl k a nm n s A5 A6 A7 ls.length args.length arms.length c5 c6 c7 h hh W)
 have cR:=fun W=>Hz (M1 h k a nm n s A5 A6 A7 ls.length args.length arms.length c5 c6 c7 W)
 rw[hr] at cR;have HV:=Hz hV;have HB:=Hz hB;have HN:=Hz hN;have HS:=Hz hs;have HX:=Hz hx;have HH:=Hz hh;have HR:=Hz hr;have IH:=Hz ih;have HI:Hid (∀ k,k≠1∧k≠6∧k≠2∧k≠3∧k≠4∧k≠5∧k≠14∧k≠12∧k≠13→IC1 w0 ok P (N+1) k):=Hz hI;clear hM hO hl hh hr hV hB hN hs hx ih hI;have hb0:=hb.new (.cells #[vI k,vI a,vS nm,vI n,vS s,.slice A5 ls.length c5,.slice A6 args.length c6,.slice A7 arms.length c7] 35);go_enter func38,ntmps38;go_wp2_with fail;have q0:=hb0.at (Lm' ..)
 generalize hX:wr.alloc (.cells #[vI k,vI a,vS nm,vI n,vS s,.slice A5 ls.length c5,.slice A6 args.length c6,.slice A7 arms.length c7] 35)=x at *
 generalize wr.heap.size=T at *
 obtain⟨⟨l0,l1,l2,l3,l4,l5,l6,l7⟩,_⟩:=Ac q0;have hT:=Aa q0
 go_region_held3 (fun w'=>w'.cell? ⟨T,0,none⟩=some (vI k)∧w'.cell? ⟨T,1,none⟩=some (vI a)∧w'.cell? ⟨T,2,none⟩=some (vS nm)∧w'.cell? ⟨T,3,none⟩=some (vI n)∧w'.cell? ⟨T,4,none⟩=some (vS s)∧w'.cell? ⟨T,5,none⟩=some (.slice A5 ls.length c5)∧w'.cell? ⟨T,6,none⟩=some (.slice A6 args.length c6)∧w'.cell? ⟨T,7,none⟩=some (.slice A7 arms.length c7)) (first|go_keep|exact⟨l0,l1,l2,l3,l4,l5,l6,l7⟩) ((first|((with_reducible refine(cF _).out.mono ?_);rintro e w2 ⟨rfl,f2⟩;have q0:=f2.keep q0 nE;obtain⟨⟨l0,l1,l2,l3,l4,l5,l6,l7⟩,_⟩:=Ac q0)| ((with_reducible refine(cR _).out.mono ?_);rintro e w3 ⟨rfl,f3⟩;have q0:=f3.keep q0 nE;obtain⟨⟨l0,l1,l2,l3,l4,l5,l6,l7⟩,_⟩:=Ac q0)| ((with_reducible refine(must_yes _).mono ?_);rintro e w4 ⟨rfl,rfl⟩)))
 replace hb:=((hb0.fr ((Fr.refl [] x).drew.trans f2)).fr f3)
 clear hb0 f2 f3 q0 cF cR hX hT l0 l1 l2 l3 l4 l5 l6 l7;obtain⟨⟨l0,l1,l2,l3,l4,l5,l6,l7⟩,_⟩:=Ac (hb.at (Lm' ..));by_cases t1:k=1
 ·subst t1;have hh:=HH.out;have hr:=HR.out;simp[Bt] at hh;subst hh;obtain⟨rfl,rfl,rfl,rfl,rfl⟩:n=0∧s=[]∧ls=[]∧args=[]∧arms=[]:=by simpa [Ah,and_assoc] using hr
  obtain⟨⟨hs1,hs2,hs3,hs4⟩,hs5,hs6⟩:=HS.out;clear HI HH HR hr HS;have HW:Hid (l++(nm++[])=M):=Hz (by rw[← HM.out];simp[txE,Eb,Az,Cr]);have HP:Hid (As nm=O):=Hz (by rw[← HO.out];simp[A9,Au,A0]);have cN:=fun w hE=>Hz (Ew ⟨nm.toArray⟩ (by simp[ByteArray.size];omega) w hE)
  rw[(show(⟨nm.toArray⟩:ByteArray).data.toList=nm from rfl)] at cN;go_wp2_with fail;refine(cN _ (HV.out.fr hb.frame)).out.mono ?_;rintro e w5 ⟨rfl,hf⟩;replace hb:=hb.fr hf;clear hf;clear l0 l1 l2 l3 l4 l5 l6 l7;obtain⟨⟨l0,l1,l2,l3,l4,l5,l6,l7⟩,_⟩:=Ac (hb.at (Lm' ..))
  cases hn:As nm with
  | false =>
   go_wp2_with fail;refine(must_no _).mono ?_;rintro e w6 ⟨rfl,hf⟩;go_wp2_with fail
   exact⟨rfl,Sd.gave (by rw[← HP.out,hn]) (hb.frame.trans hf)⟩
  | true =>
   go_wp2_with fail;refine(must_yes _).mono ?_;rintro e w6 ⟨rfl,rfl⟩;go_wp2_with fail;refine(hb.add1 nm _ (by have:=Ax HW.out HL.out;omega)).mono ?_;rintro e w5 ⟨rfl,hb⟩;go_wp2_with fail
   go_end0
   exact Sd.done (by rw[← HP.out,hn]) (Cm (Aw HW.out)) hb.drop
 by_cases t6:k=6
 ·subst t6;have hh:=HH.out;have hr:=HR.out;simp[Bt] at hh;subst hh;obtain⟨rfl,rfl,rfl,rfl,rfl⟩:n=0∧s=[]∧ls=[]∧args=[]∧arms=[]:=by simpa [Ah,and_assoc] using hr
  obtain⟨⟨hs1,hs2,hs3,hs4⟩,hs5,hs6⟩:=HS.out;clear HI HH HR hr HS;have HW:Hid (l++(nm++[])=M):=Hz (by rw[← HM.out];simp[txE,Eb,Az,Cr]);have HP:Hid (Dm nm=O):=Hz (by rw[← HO.out];simp[A9,Au,A0]);have cN:=fun w hE=>Hz (Kl ⟨nm.toArray⟩ (by simp[ByteArray.size];omega) w hE)
  rw[(show(⟨nm.toArray⟩:ByteArray).data.toList=nm from rfl)] at cN;go_wp2_with fail;refine(cN _ (HV.out.fr hb.frame)).out.mono ?_;rintro e w5 ⟨rfl,hf⟩;replace hb:=hb.fr hf;clear hf;clear l0 l1 l2 l3 l4 l5 l6 l7;obtain⟨⟨l0,l1,l2,l3,l4,l5,l6,l7⟩,_⟩:=Ac (hb.at (Lm' ..))
  cases hn:Dm nm with
  | false =>
   go_wp2_with fail;refine(must_no _).mono ?_;rintro e w6 ⟨rfl,hf⟩;go_wp2_with fail
   exact⟨rfl,Sd.gave (by rw[← HP.out,hn]) (hb.frame.trans hf)⟩
  | true =>
   go_wp2_with fail;refine(must_yes _).mono ?_;rintro e w6 ⟨rfl,rfl⟩;go_wp2_with fail;refine(hb.add1 nm _ (by have:=Ax HW.out HL.out;omega)).mono ?_;rintro e w5 ⟨rfl,hb⟩;go_wp2_with fail
   go_end0
   exact Sd.done (by rw[← HP.out,hn]) (Cm (Aw HW.out)) hb.drop
 by_cases t2:k=2
 ·subst t2;have hh:=HH.out;have hr:=HR.out;simp[Bt] at hh;subst hh;obtain⟨rfl,rfl,rfl,rfl,rfl⟩:nm=[]∧s=[]∧ls=[]∧args=[]∧arms=[]:=by simpa [Ah,and_assoc] using hr
  obtain⟨⟨hs1,hs2,hs3,hs4⟩,hs5,hs6⟩:=HS.out;clear HI HH HR hr HS;have HW:Hid (l++(Lib.itoa n++[])=M):=Hz (by rw[← HM.out];simp[txE,Eb,Az,Cr]);have HP:Hid ((decide (0≤n)&&decide (n≤Ea))=O):=Hz (by rw[← HO.out];simp[A9,Au,A0]);have cT:=fun w hE=>Hz (Tq n hs2.1 hs2.2 w hE)
  clear hs2;by_cases h3:0≤n
  ·by_cases h4:n≤Ea
   ·have hp:O=true:=by rw[← HP.out];simp[h3,h4]
    unfold Ea at h4;subst hp;clear HP HO;go_wp2_with fail;refine(must_yes _).mono ?_;rintro e w6 ⟨rfl,rfl⟩;go_wp2_with fail;refine(cT _ (HV.out.fr hb.frame).env).out.mono ?_;rintro e w5 ⟨rfl,hf⟩;replace hb:=hb.fr hf;clear hf l0 l1 l2 l3 l4 l5 l6 l7;go_wp2_with fail;refine(hb.add1 (Lib.itoa n) _ (by have:=Ax HW.out HL.out;omega)).mono ?_;rintro e w5 ⟨rfl,hb⟩;go_wp2_with fail
    go_end0
    exact Sd.done (rfl) (Cm (Aw HW.out)) hb.drop
   ·have hp:O=false:=by rw[← HP.out];simp[h4]
    unfold Ea at h4;subst hp;clear HP HO;have h4':decide (n≤4611686018427387903)=false:=by simp;omega
    go_wp2_with fail;refine(must_no _).mono ?_;rintro e w6 ⟨rfl,hf⟩;go_wp2_with fail;exact⟨rfl,Sd.gave (rfl) (hb.frame.trans hf)⟩
  ·have hp:O=false:=by rw[← HP.out];simp[h3]
   subst hp;clear HP HO;go_wp2_with fail;refine(must_no _).mono ?_;rintro e w6 ⟨rfl,hf⟩;go_wp2_with fail;exact⟨rfl,Sd.gave (rfl) (hb.frame.trans hf)⟩
 by_cases t4:k=4
 ·subst t4;have hh:=HH.out;have hr:=HR.out;simp[Bt] at hh;subst hh;obtain⟨rfl,rfl,rfl,rfl,rfl⟩:nm=[]∧s=[]∧ls=[]∧args=[]∧arms=[]:=by simpa [Ah,and_assoc] using hr
  obtain⟨⟨hs1,hs2,hs3,hs4⟩,hs5,hs6⟩:=HS.out;clear HI HH HR hr HS;have HW:Hid (l++(Fs n++[])=M):=Hz (by rw[← HM.out];simp[txE,Eb,Az,Cr]);have HP:Hid ((n==0||n==1)=O):=Hz (by rw[← HO.out];simp[A9,Au,A0])
  cases hn:(n==0||n==1)with
  | false =>
   have cT:=fun w=>Hz (Wa n hn w)
   rw[hn] at HP;clear hn;go_wp2_with fail;refine(cT _).out.mono ?_;rintro e w6 ⟨rfl,hf⟩;go_wp2_with fail
   exact⟨rfl,Sd.gave HP.out.symm (hb.frame.trans hf)⟩
  | true =>
   have cT:=fun w=>Hz (R0 n hn w)
   rw[hn] at HP;clear hn;go_wp2_with fail;refine(cT _).out.mono ?_;rintro e w5 ⟨rfl,rfl⟩;go_wp2_with fail;refine(hb.add1 (Fs n) _ (by have:=Ax HW.out HL.out;omega)).mono ?_;rintro e w5 ⟨rfl,hb⟩;go_wp2_with fail
   go_end0
   exact Sd.done (HP.out.symm) (Cm (Aw HW.out)) hb.drop
 by_cases t3:k=3
 ·subst t3;have hh:=HH.out;have hr:=HR.out;simp[Bt] at hh;subst hh;obtain⟨rfl,rfl,rfl,rfl,rfl⟩:nm=[]∧n=0∧ls=[]∧args=[]∧arms=[]:=by simpa [Ah,and_assoc] using hr
  obtain⟨⟨hs1,hs2,hs3,hs4⟩,hs5,hs6⟩:=HS.out;clear HI HH HR hr HS;have HW:Hid (l++(C7 s++[])=M):=Hz (by rw[← HM.out];simp[txE,Eb,Az,Cr]);have HP:Hid (true=O):=Hz (by rw[← HO.out];simp[A9,Au,A0]);have cQ:=fun w=>Hz (Mi ⟨s.toArray⟩ (by simp[ByteArray.size];omega) w)
  rw[(show(⟨s.toArray⟩:ByteArray).data.toList=s from rfl)] at cQ;go_wp2_with fail;refine(cQ _).out.mono ?_;rintro e w5 ⟨rfl,hf⟩;replace hb:=hb.fr hf;clear hf l0 l1 l2 l3 l4 l5 l6 l7;go_wp2_with fail;refine(hb.add1 (C7 s) _ (by have:=Ax HW.out HL.out;omega)).mono ?_;rintro e w5 ⟨rfl,hb⟩;go_wp2_with fail
  go_end0
  exact Sd.done (HP.out.symm) (Cm (Aw HW.out)) hb.drop
 by_cases t5:k=5
 ·subst t5;have hh:=HH.out;have hr:=HR.out;simp[Bt] at hh;subst hh;obtain⟨rfl,rfl,rfl,rfl,rfl,rfl⟩:nm=[]∧n=0∧s=[]∧ls=[]∧args=[]∧arms=[]:=by simpa [Ah,and_assoc] using hr
  obtain⟨⟨hs1,hs2,hs3,hs4⟩,hs5,hs6⟩:=HS.out;clear HI HH HR hr HS;have HW:Hid (l++([40,41]++[])=M):=Hz (by rw[← HM.out];simp[txE,Eb,Az,Cr]);have HP:Hid (true=O):=Hz (by rw[← HO.out];simp[A9,Au,A0]);go_wp2_with fail;refine(hb.add1 [40,41] _ (by have:=Ax HW.out HL.out;omega)).mono ?_;rintro e w5 ⟨rfl,hb⟩;go_wp2_with fail
  go_end0
  exact Sd.done (HP.out.symm) (Cm (Aw HW.out)) hb.drop
 by_cases t14:k=14
 ·subst t14;have hh:=HH.out;have hr:=HR.out;simp[Bt] at hh;subst hh;obtain⟨rfl,rfl,rfl,t,rfl⟩:n=0∧s=[]∧ls=[]∧args.length=1∧arms=[]:=by simpa [Ah,and_assoc] using hr
  obtain⟨⟨hs1,hs2,hs3,hs4⟩,hs5,hs6⟩:=HS.out;clear HI HH HR hr HS;obtain⟨x,rfl⟩:=Id t;have HW:Hid (l++(txE x++(([46]++nm)++[]))=M):=Hz (by rw[← HM.out];simp[txE,Eb,Az,Cr]);have HP:Hid ((As nm&&Be x)=O):=Hz (by rw[← HO.out];simp[A9,Au,A0]);have hN:=HN.out;rw[show szE _=1+szE x by simp[szE,B1,Cd]] at hN;replace HN:=Hz hN;clear hN;have HS:=Hz hs5.1
  cases HX.out with
  | mk d5 d6 dp de h5 e5 h6 e6 h7 e7 e8 =>
  have H6:=Hz h6;have E6:=Hz (e6 0 x rfl);clear hs5 h5 e5 h6 e6 h7 e7 e8 HX;have cN:=fun w hE=>Hz (Ew ⟨nm.toArray⟩ (by simp[ByteArray.size];omega) w hE)
  rw[(show(⟨nm.toArray⟩:ByteArray).data.toList=nm from rfl)] at cN;go_wp2_with fail;refine(cN _ (HV.out.fr hb.frame)).out.mono ?_;rintro e w5 ⟨rfl,hf⟩;replace hb:=hb.fr hf;clear hf;clear l0 l1 l2 l3 l4 l5 l6 l7;obtain⟨⟨l0,l1,l2,l3,l4,l5,l6,l7⟩,_⟩:=Ac (hb.at (Lm' ..))
  cases hn:As nm with
  | false =>
   go_wp2_with fail;refine(must_no _).mono ?_;rintro e w6 ⟨rfl,hf⟩;go_wp2_with fail
   exact⟨rfl,Sd.gave (by rw[← HP.out,hn];rfl) (hb.frame.trans hf)⟩
  | true =>
  go_wp2_with fail;refine(must_yes _).mono ?_;rintro e w6 ⟨rfl,rfl⟩;obtain⟨g,o,hA,hg,hc⟩:=H6.out.elem hb.frame (i:=0) (by simp);cases hA;simp only[Nat.zero_mul,Nat.add_zero,Nat.one_mul] at hc;obtain⟨k2,a2,nm2,n2,s2,ls2,args2,arms2,A52,c52,A62,c62,A72,c72,rfl,hx2,x0,x1,x2,x3,x4,x5,x6,x7⟩:=E6.out.told hc;have C2:=Hz (IH.out k2 a2 nm2 n2 s2 ls2 args2 arms2 A52 A62 A72 c52 c62 c72 _ _ _ (by have:=HN.out;omega) HS.out hx2 hb (by have:=Ax HW.out HL.out;omega));clear hc hx2;clear l0 l1 l2 l3 l4 l5 l6 l7;obtain⟨⟨l0,l1,l2,l3,l4,l5,l6,l7⟩,_⟩:=Ac (hb.at (Lm' ..));go_wp2_with fail;refine C2.out.mono ?_;rintro e w7 (⟨hok,rfl,hb⟩| ⟨hok,rfl,hf⟩)
  ·have HW2:=Hz (Aw HW.out);clear x0 x1 x2 x3 x4 x5 x6 x7;clear l0 l1 l2 l3 l4 l5 l6 l7;obtain⟨⟨l0,l1,l2,l3,l4,l5,l6,l7⟩,_⟩:=Ac (hb.at (Lm' ..));go_wp2_with fail;refine(hb.add2 [46] nm _ (by have:=Ax HW2.out HL.out;omega)).mono ?_;rintro e w5 ⟨rfl,hb⟩;go_wp2_with fail
   go_end0
   exact Sd.done (by rw[← HP.out,hn,hok];rfl) (Cm (Aw HW2.out)) hb.drop
  ·go_wp2_with fail;exact⟨rfl,Sd.gave (by rw[← HP.out,hn,hok];rfl) hf⟩
 by_cases t13:k=13
 ·subst t13;have hh:=HH.out;have hr:=HR.out;simp[Bt] at hh;subst hh;obtain⟨rfl,rfl,rfl,t,rfl⟩:n=0∧s=[]∧ls=[]∧args.length=2∧arms=[]:=by simpa [Ah,and_assoc] using hr
  obtain⟨⟨hs1,hs2,hs3,hs4⟩,hs5,hs6⟩:=HS.out;clear HI HH HR hr HS;obtain⟨x,y,rfl⟩:=Ib t;have HW:Hid (l++([123]++(txE x++(([32,119,105,116,104,32]++(nm++[32,61,32]))++(txE y++([125]++[])))))=M):=Hz (by rw[← HM.out];simp[txE,Eb,Az,Cr]);have HP:Hid ((As nm&&(Be x&&Be y))=O):=Hz (by rw[← HO.out];simp[A9,Au,A0]);have hN:=HN.out;rw[show szE _=1+(szE x+szE y) by simp[szE,B1,Cd]] at hN;replace HN:=Hz hN;clear hN;have HS:=Hz hs5
  cases HX.out with
  | mk d5 d6 dp de h5 e5 h6 e6 h7 e7 e8 =>
  have H6:=Hz h6;have E6:=Hz (e6 0 x rfl);have E7:=Hz (e6 1 y rfl);clear hs5 h5 e5 h6 e6 h7 e7 e8 HX;have cN:=fun w hE=>Hz (Ew ⟨nm.toArray⟩ (by simp[ByteArray.size];omega) w hE)
  rw[(show(⟨nm.toArray⟩:ByteArray).data.toList=nm from rfl)] at cN;go_wp2_with fail;refine(cN _ (HV.out.fr hb.frame)).out.mono ?_;rintro e w5 ⟨rfl,hf⟩;replace hb:=hb.fr hf;clear hf;clear l0 l1 l2 l3 l4 l5 l6 l7;obtain⟨⟨l0,l1,l2,l3,l4,l5,l6,l7⟩,_⟩:=Ac (hb.at (Lm' ..))
  cases hn:As nm with
  | false =>
   go_wp2_with fail;refine(must_no _).mono ?_;rintro e w6 ⟨rfl,hf⟩;go_wp2_with fail
   exact⟨rfl,Sd.gave (by rw[← HP.out,hn];rfl) (hb.frame.trans hf)⟩
  | true =>
  go_wp2_with fail;refine(must_yes _).mono ?_;rintro e w6 ⟨rfl,rfl⟩;go_wp2_with fail;refine(hb.add1 [123] _ (by have:=Ax HW.out HL.out;omega)).mono ?_;rintro e w5 ⟨rfl,hb⟩;have HW1:=Hz (Aw HW.out);obtain⟨g,o,hA,hg,hc⟩:=H6.out.elem hb.frame (i:=0) (by simp);cases hA;simp only[Nat.zero_mul,Nat.add_zero,Nat.one_mul] at hc;obtain⟨k2,a2,nm2,n2,s2,ls2,args2,arms2,A52,c52,A62,c62,A72,c72,rfl,hx2,x0,x1,x2,x3,x4,x5,x6,x7⟩:=E6.out.told hc;have C2:=Hz (IH.out k2 a2 nm2 n2 s2 ls2 args2 arms2 A52 A62 A72 c52 c62 c72 _ _ _ (by have:=HN.out;omega) HS.out.1 hx2 hb (by have:=Ax HW1.out HL.out;omega));clear hc hx2;clear l0 l1 l2 l3 l4 l5 l6 l7;obtain⟨⟨l0,l1,l2,l3,l4,l5,l6,l7⟩,_⟩:=Ac (hb.at (Lm' ..));go_wp2_with fail;refine C2.out.mono ?_;rintro e w7 (⟨hok,rfl,hb⟩| ⟨hok,rfl,hf⟩)
  ·have HW2:=Hz (Aw HW1.out);clear C2 x0 x1 x2 x3 x4 x5 x6 x7;clear l0 l1 l2 l3 l4 l5 l6 l7;obtain⟨⟨l0,l1,l2,l3,l4,l5,l6,l7⟩,_⟩:=Ac (hb.at (Lm' ..));go_wp2_with fail;refine(hb.add3 [32,119,105,116,104,32] nm [32,61,32] _ (by have:=Ax HW2.out HL.out;omega)).mono ?_;rintro e w5 ⟨rfl,hb⟩;have HW3:=Hz (Aw HW2.out);obtain⟨g,o,hA,hg,hc⟩:=H6.out.elem hb.frame (i:=1) (by simp);cases hA;simp only[Nat.zero_mul,Nat.add_zero,Nat.one_mul] at hc;obtain⟨k2,a2,nm2,n2,s2,ls2,args2,arms2,A52,c52,A62,c62,A72,c72,rfl,hx2,x0,x1,x2,x3,x4,x5,x6,x7⟩:=E7.out.told hc;have C3:=Hz (IH.out k2 a2 nm2 n2 s2 ls2 args2 arms2 A52 A62 A72 c52 c62 c72 _ _ _ (by have:=HN.out;omega) HS.out.2.1 hx2 hb (by have:=Ax HW3.out HL.out;omega));clear hc hx2;clear l0 l1 l2 l3 l4 l5 l6 l7;obtain⟨⟨l0,l1,l2,l3,l4,l5,l6,l7⟩,_⟩:=Ac (hb.at (Lm' ..));go_wp2_with fail;refine C3.out.mono ?_;rintro e w7 (⟨hok3,rfl,hb⟩| ⟨hok3,rfl,hf⟩)
   ·have HW4:=Hz (Aw HW3.out);go_wp2_with fail;refine(hb.add1 [125] _ (by have:=Ax HW4.out HL.out;omega)).mono ?_;rintro e w5 ⟨rfl,hb⟩;go_wp2_with fail
    go_end0
    exact Sd.done (by rw[← HP.out,hn,hok,hok3];rfl) (Cm (Aw HW4.out)) hb.drop
   ·go_wp2_with fail;exact⟨rfl,Sd.gave (by rw[← HP.out,hok3];simp) hf⟩
  ·go_wp2_with fail;exact⟨rfl,Sd.gave (by rw[← HP.out,hok];simp) hf⟩
 by_cases t12:k=12
 ·subst t12;have hh:=HH.out;have hr:=HR.out;simp[Bt] at hh;subst hh;obtain⟨rfl,rfl,rfl,t,rfl⟩:nm=[]∧n=0∧s=[]∧args.length=ls.length∧arms=[]:=by simpa [Ah,and_assoc] using hr
  obtain⟨⟨hs1,hs2,hs3,hs4⟩,hs5,hs6⟩:=HS.out;clear HI HH HR hr HS;have HT:=Hz t;have HO2:Hid (((ls.drop 0).all As&&Au (args.drop 0))=O):=Hz (by rw[← HO.out];simp[A9,A0]);replace HO:=HO2;clear HO2;have HW:Hid (l++([123]++(G8 (decide (0=0)) (ls.drop 0) (Az (args.drop 0))++[125]))=M):=Hz (by rw[← HM.out];simp[txE,Eb]);have hN:=HN.out;rw[show szE _=1+B1 args by simp[szE,B1,Cd]] at hN;replace HN:=Hz hN;clear hN;have HS:=Hz hs5;have HS4:=Hz hs4;have hal:args.length≤1099511627776:=by have:=Te args;have:=HN.out;have:=HB.out;omega
  cases HX.out with
  | mk d5 d6 dp de h5 e5 h6 e6 h7 e7 e8 =>
  have H5:=Hz h5;have H6:=Hz h6;have E5:Hid (∀ (i:Nat) (x:LB),ls[i]?=some x→d5 i=Of x):=Hz e5;have E6:Hid (∀ (i:Nat) (x:Ab),args[i]?=some x→Aj w0 ok x (d6 i)):=Hz e6;have q9:(args.length:Int)=(ls.length:Int):=by rw[t]
  have q8:(args.length:Int)≤1099511627776:=by omega
  clear hs5 hs4 h5 e5 h6 e6 h7 e7 e8 HX t;go_wp2_with fail;refine(hb.add1 [123] _ (by have:=Ax HW.out HL.out;omega)).mono ?_;rintro e w2 ⟨rfl,hb⟩;have HW0:=Hz (Aw HW.out);clear l0 l1 l2 l3 l4 l5 l6 l7;obtain⟨⟨l0,l1,l2,l3,l4,l5,l6,l7⟩,_⟩:=Ac (hb.at (Lm' ..));go_wp2_with fail;clear l0 l1 l2 l3 l4 l5 l6 l7;clear HW
  go_loopw [107] (fun iv wx=>∃ (i:Nat) (m:LB),iv=vI i∧i≤args.length∧WB w0 P ((T,.cells #[vI 12,vI a,vE,vI 0,vE,.slice A5 ls.length c5,.slice A6 args.length c6,.slice A7 0 c7] 35)::rs) m wx∧Hid (m++(G8 (decide (i=0)) (ls.drop i) (Az (args.drop i))++[125])=M)∧Hid ((((ls.drop i).all As)&&Au (args.drop i))=O)) (fun iv wx=>args.length-(intOf iv).toNat)
  case atStart=>exact⟨0,_,rfl,by omega,hb,HW0,HO⟩
  case round =>
   obtain⟨i,m,rfl,hi,hb,HW,HO⟩:=hrel;clear HW0;by_cases hlt:i<args.length
   ·obtain⟨x,hx⟩:∃ x,args[i]?=some x:=⟨args[i],Lg' hlt⟩
    obtain⟨y,hy⟩:∃ y,ls[i]?=some y:=⟨ls[i]'(by rw[← HT.out];exact hlt),Lg' _⟩
    have hw:m++(((if decide (i=0)=true then [] else [44,32])++(y++[32,61,32]))++(txE x++(G8 (decide (i+1=0)) (ls.drop (i+1)) (Az (args.drop (i+1)))++[125])))=M:=by rw[← HW.out,rowE_at hy hx];simp[Ls']
    have ho:((As y&&((ls.drop (i+1)).all As))&&(Be x&&Au (args.drop (i+1))))=O:=by rw[← HO.out,Yd hy,Lj hx]
    have HX:=Hz hx;have HW1:=Hz (Aw hw);have HO1:=Hz ho;have hyl:=HS4.out y (List.mem_of_getElem? hy);obtain⟨g5,o5,hA5,hg5,hc5⟩:=H5.out.elem hb.frame (i:=i) (by rw[← HT.out];exact hlt);subst hA5;have y0:=hc5 0 _ (by rw[E5.out i y hy];rfl);simp only[Nat.mul_one,Nat.add_zero] at y0;obtain⟨g,o,hA,hg,hc⟩:=H6.out.elem hb.frame hlt;subst hA;obtain⟨k2,a2,nm2,n2,s2,ls2,args2,arms2,A52,c52,A62,c62,A72,c72,rfl,hx2,x0,x1,x2,x3,x4,x5,x6,x7⟩:=(E6.out i _ hx).told hc;have hml:m.length≤70368744177664:=by have:=Ax hw HL.out;omega
    clear hx hy hw ho hc hc5;have q1:(0:Int)≤(i:Int):=by omega
    have q2:(i:Int)<(args.length:Int):=by omega
    have q3:(i:Int)<(ls.length:Int):=by omega
    obtain⟨⟨l0,l1,l2,l3,l4,l5,l6,l7⟩,_⟩:=Ac (hb.at (Lm' ..));have hTw:=Aa (hb.at (Lm' ..));replace hb:=hb.new (.cells #[vI k2,vI a2,vS nm2,vI n2,vS s2,.slice A52 ls2.length c52,.slice A62 args2.length c62,.slice A72 arms2.length c72] 35);have cL:=fun rz W hW=>Hz (Ri w0 P rz m y i (by omega) hyl hml W HV.out hW)
    go_wp2_with fail
    generalize wr.heap.size=Tx at *
    refine(cL _ _ hb).out.mono ?_;rintro e w3 (⟨hok1,rfl,hb⟩| ⟨hok1,rfl,hf⟩)
    ·clear l0 l1 l2 l3 l4 l5 l6 l7;clear x0 x1 x2 x3 x4 x5 x6 x7 y0 cL;obtain⟨⟨l0,l1,l2,l3,l4,l5,l6,l7⟩,_⟩:=Ac (hb.at (Lm' ..));have C2:=Hz (IH.out k2 a2 nm2 n2 s2 ls2 args2 arms2 A52 A62 A72 c52 c62 c72 _ _ _ (by have:=Et HX.out;have:=HN.out;omega) (HS.out.get HX.out) hx2 hb (by have:=Ax HW1.out HL.out;omega));clear hx2;go_wp2_with fail;refine C2.out.mono ?_;rintro e w4 (⟨hok2,rfl,hb⟩| ⟨hok2,rfl,hf⟩)
     ·have HW2:=Hz (Aw HW1.out);have HO2:=Hz HO1.out;rw[hok1,hok2,Bool.true_and,Bool.true_and] at HO2;clear hok1 hok2 C2 HW1 HO1 HW HO l0 l1 l2 l3 l4 l5 l6 l7;go_wp2_with fail
      go_roundw
      case rel=>exact⟨i+1,_,by simp,by omega,hb.drop,HW2,HO2⟩
      case measure=>simp[intOf];omega
     ·go_wp2_with fail;exact⟨rfl,Sd.gave (by rw[← HO1.out,hok2];simp) hf⟩
    ·go_wp2_with fail;exact⟨rfl,Sd.gave (by rw[← HO1.out,hok1];simp) hf⟩
   ·have ei:i=args.length:=by omega
    subst ei;have hw:=HW.out;rw[Y1 (by rw[← HT.out];exact Nr' _)] at hw;have ho:=HO.out;rw[List.drop_eq_nil_of_le (by rw[← HT.out];exact Nr' _:ls.length≤args.length),Iu (Nr' _)] at ho;go_wp2_with fail;refine(hb.add1 [125] _ (by have h1:=congrArg List.length hw;have h2:=HL.out;simp only[La',Ln',Lc'] at h1 ⊢;omega)).mono ?_;rintro e w4 ⟨rfl,hb⟩;go_wp2_with fail
    go_end0
    exact Sd.done (by rw[← ho];rfl) (by rw[← hw];simp) hb.drop
 have HW:Hid (l++([40]++(Bc k nm n (Az args) (Cr arms)++([41]++[])))=M):=Hz (by rw[← HM.out];simp[txE,Eb, *]);have cI:=fun w rz l' hb hl'=>Hz (HI.out k ⟨t1,t6,t2,t3,t4,t5,t14,t12,t13⟩ a nm n s ls args arms A5 A6 A7 c5 c6 c7 rz l' w HN.out HS.out HX.out ⟨h,HH.out,HR.out⟩ hb hl')
 have z1:(k==1)=false:=by rw[bN];exact t1
 have z6:(k==6)=false:=by rw[bN];exact t6
 have z2:(k==2)=false:=by rw[bN];exact t2
 have z3:(k==3)=false:=by rw[bN];exact t3
 have z4:(k==4)=false:=by rw[bN];exact t4
 have z5:(k==5)=false:=by rw[bN];exact t5
 have z14:(k==14)=false:=by rw[bN];exact t14
 have z12:(k==12)=false:=by rw[bN];exact t12
 have z13:(k==13)=false:=by rw[bN];exact t13
 clear HI HH HR HS HN HX IH t1 t6 t2 t3 t4 t5 t14 t12 t13;go_wp2_with fail;refine(hb.add1 [40] _ (by have:=Ax HW.out HL.out;omega)).mono ?_;rintro e w5 ⟨rfl,hb⟩;have HW1:=Hz (Aw HW.out);clear l0 l1 l2 l3 l4 l5 l6 l7;obtain⟨⟨l0,l1,l2,l3,l4,l5,l6,l7⟩,_⟩:=Ac (hb.at (Lm' ..));go_wp2_with fail;refine(cI _ _ _ hb (by have:=Ax HW1.out HL.out;omega)).out.mono ?_;rintro e w6 (⟨hok,rfl,hb⟩| ⟨hok,rfl,hf⟩)
 ·have HW2:=Hz (Aw HW1.out);go_wp2_with fail;refine(hb.add1 [41] _ (by have:=Ax HW2.out HL.out;omega)).mono ?_;rintro e w5 ⟨rfl,hb⟩;go_wp2_with fail
  go_end0
  exact Sd.done (by rw[← HO.out,hok]) (Cm (Aw HW2.out)) hb.drop
 ·go_wp2_with fail;exact⟨rfl,Sd.gave (by rw[← HO.out,hok]) hf⟩
end
theorem Uk(w0:World)(ok:Nat→Prop)(P:Nat)(hV:Dx w0):∀ N,N≤1099511627776→EC w0 ok P N
 | 0,_=>fun _ _ _ _ _ _ _ _ _ _ _ _ _ _ _ _ _ h=>absurd h (Nat.not_lt_zero _)
 | N+1,hN=>by
  have ih:=Uk w0 ok P hV N (by omega);have hP:=S4 w0 ok P hV N (by omega);have hB:N≤1099511627775:=by omega
  refine X7 w0 ok P N hV hB ih fun k hk=>?_
  intro a nm n s ls args arms A5 A6 A7 c5 c6 c7 rs l wr hN hs hx hR hb hl;obtain⟨h,hh,hr⟩:=hR
  have go:IC1 w0 ok P (N+1) k:=by
   rcases Ym hh with⟨rfl,_⟩| rfl|rfl|rfl|rfl|rfl|rfl|rfl|rfl|rfl|rfl|rfl|rfl|rfl|rfl|rfl|rfl|rfl|rfl|rfl|rfl|rfl
   all_goals first
    | exact Yk w0 ok P N hV ih
    | exact inner_8 w0 ok P N hV ih
    | exact inner_9 w0 ok P N hV ih
    | exact inner_10 w0 ok P N hV ih
    | exact inner_11 w0 ok P N hV ih
    | exact inner_15 w0 ok P N hV ih
    | exact inner_16 w0 ok P N hB ih hP
    | exact inner_17 w0 ok P N hB ih hP
    | exact inner_18 w0 ok P N hV ih
    | exact inner_19 w0 ok P N ih
    | exact inner_20 w0 ok P N hV ih
    | exact inner_21 w0 ok P N hV ih
    | exact inner_22 w0 ok P N hV ih
    | (simp at hk)
  exact go a nm n s ls args arms A5 A6 A7 c5 c6 c7 rs l wr hN hs hx ⟨h,hh,hr⟩ hb hl
end Go.Proofs.YtabhpdhajajoiaaGreatDoor
