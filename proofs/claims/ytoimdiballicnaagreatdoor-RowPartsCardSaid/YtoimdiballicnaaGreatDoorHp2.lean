/- Two functions' types are made one as their arguments, and then their results, are: proved for every input. -/
import Derived.BigQuiet
import Derived.Test.YtoimdiballicnaaGreatDoorHp1
namespace Go.Proofs.YtoimdiballicnaaGreatDoor
open Go.RowKit
set_option linter.all false
set_option maxHeartbeats 16000000
set_option maxRecDepth 100000
section
attribute [local go_sem ↓] Go.wp_at_zero Go.wp_at_succ
section
variable [LoB]
attribute [local instance] Ex.no
theorem RowParts_walk{W:World}(hlo:LoB.lo=W.heap.size){a b x y:TyT}{A B A' B' A2 B2 A3 B3:Option Addr}{c d c' d' c2 d2 c3 d3:Nat}{P0:List UInt8→Prop}(ta:TyAt W (okW W) P0 a [.int .i64 a.k,.int .i64 a.v,.slice A a.args.length c,.slice B a.fs.length d,.int .i64 a.rest])(tb:TyAt W (okW W) P0 b [.int .i64 b.k,.int .i64 b.v,.slice A' b.args.length c',.slice B' b.fs.length d',.int .i64 b.rest])(tx:TyAt W (okW W) P0 x [.int .i64 x.k,.int .i64 x.v,.slice A2 x.args.length c2,.slice B2 x.fs.length d2,.int .i64 x.rest])(ty:TyAt W (okW W) P0 y [.int .i64 y.k,.int .i64 y.v,.slice A3 y.args.length c3,.slice B3 y.fs.length d3,.int .i64 y.rest]):
  Calls Tryz.prog 7 #[.agg #[.int .i64 a.k,.int .i64 a.v,.slice A a.args.length c,.slice B a.fs.length d,.int .i64 a.rest],.agg #[.int .i64 b.k,.int .i64 b.v,.slice A' b.args.length c',.slice B' b.fs.length d',.int .i64 b.rest],.agg #[.int .i64 x.k,.int .i64 x.v,.slice A2 x.args.length c2,.slice B2 x.fs.length d2,.int .i64 x.rest],.agg #[.int .i64 y.k,.int .i64 y.v,.slice A3 y.args.length c3,.slice B3 y.fs.length d3,.int .i64 y.rest]] W fun e w'=>e = .returned (.bool true)∧Fr [] W w':=by
 have J0:=Lib.hid (Box4.made W (.cells #[.int .i64 a.k,.int .i64 a.v,.slice A a.args.length c,.slice B a.fs.length d,.int .i64 a.rest] 27) (.cells #[.int .i64 b.k,.int .i64 b.v,.slice A' b.args.length c',.slice B' b.fs.length d',.int .i64 b.rest] 27) (.cells #[.int .i64 x.k,.int .i64 x.v,.slice A2 x.args.length c2,.slice B2 x.fs.length d2,.int .i64 x.rest] 27) (.cells #[.int .i64 y.k,.int .i64 y.v,.slice A3 y.args.length c3,.slice B3 y.fs.length d3,.int .i64 y.rest] 27))
 have HF0:=Lib.hid (((((Fr.refl [] W).alloc (.cells #[.int .i64 a.k,.int .i64 a.v,.slice A a.args.length c,.slice B a.fs.length d,.int .i64 a.rest] 27)).alloc (.cells #[.int .i64 b.k,.int .i64 b.v,.slice A' b.args.length c',.slice B' b.fs.length d',.int .i64 b.rest] 27)).alloc (.cells #[.int .i64 x.k,.int .i64 x.v,.slice A2 x.args.length c2,.slice B2 x.fs.length d2,.int .i64 x.rest] 27)).alloc (.cells #[.int .i64 y.k,.int .i64 y.v,.slice A3 y.args.length c3,.slice B3 y.fs.length d3,.int .i64 y.rest] 27))
 have Ta:=Lib.hid ta
 have Tb:=Lib.hid tb
 have Tx:=Lib.hid tx
 have Ty:=Lib.hid ty
 have hs0:=HF0.out.size
 clear ta tb tx ty
 obtain⟨ab,eab⟩:∃ ab,ab=fnT a b:=⟨_,rfl⟩
 obtain⟨xy,exy⟩:∃ xy,xy=fnT x y:=⟨_,rfl⟩
 obtain⟨al,eal⟩:∃ al,al=fnT ab xy:=⟨_,rfl⟩
 have EAB:=Lib.hid eab
 have EXY:=Lib.hid exy
 have EAL:=Lib.hid eal
 clear eab exy eal
 go_enter Tryz.func7,Tryz.ntmps7
 go_wp2_with fail
 refine(lawake_any (by omega)).mono ?_
 rintro e w1 ⟨rfl,f1⟩
 have J1:=Lib.hid (J0.out.fr0 f1)
 have HF1:=Lib.hid (HF0.out.trans f1)
 clear f1 J0 HF0
 go_wp2_with fail
 go_cut [42] (fun v wx=>∃ q:Bool,v = .bool q∧Hid (q=false→RP3 a b x y)∧Hid (Fr [] w1 wx))
 case first =>
  refine wp_region_held_drew (S:=fun w'=>Box4 w' W.heap.size (.cells #[.int .i64 a.k,.int .i64 a.v,.slice A a.args.length c,.slice B a.fs.length d,.int .i64 a.rest] 27) (.cells #[.int .i64 b.k,.int .i64 b.v,.slice A' b.args.length c',.slice B' b.fs.length d',.int .i64 b.rest] 27) (.cells #[.int .i64 x.k,.int .i64 x.v,.slice A2 x.args.length c2,.slice B2 x.fs.length d2,.int .i64 x.rest] 27) (.cells #[.int .i64 y.k,.int .i64 y.v,.slice A3 y.args.length c3,.slice B3 y.fs.length d3,.int .i64 y.rest] 27)) (by kernel_rfl) ?_ (fun hHeld=>?_)
  ·exact J1.out.fr0 (Fr.refl [] w1).drew
  have g0:Fr [] w1 w1.drew:=(Fr.refl [] w1).drew
  refine tk1 0 (oi:={ dst:=some 15,op:=_,type:=_,pos:=_,after:=_,guard:=_ }) (v:=?_) rfl (by rfl) ?_ ?_ (hS:=hHeld)
  rotate_left
  ·intro w' hSw;have hc:=cells5 (show Box4 w' W.heap.size (.cells #[.int .i64 a.k,.int .i64 a.v,.slice A a.args.length c,.slice B a.fs.length d,.int .i64 a.rest] 27) (.cells #[.int .i64 b.k,.int .i64 b.v,.slice A' b.args.length c',.slice B' b.fs.length d',.int .i64 b.rest] 27) (.cells #[.int .i64 x.k,.int .i64 x.v,.slice A2 x.args.length c2,.slice B2 x.fs.length d2,.int .i64 x.rest] 27) (.cells #[.int .i64 y.k,.int .i64 y.v,.slice A3 y.args.length c3,.slice B3 y.fs.length d3,.int .i64 y.rest] 27)from hSw).1;have hl:=Box4.lt (show Box4 w' W.heap.size (.cells #[.int .i64 a.k,.int .i64 a.v,.slice A a.args.length c,.slice B a.fs.length d,.int .i64 a.rest] 27) (.cells #[.int .i64 b.k,.int .i64 b.v,.slice A' b.args.length c',.slice B' b.fs.length d',.int .i64 b.rest] 27) (.cells #[.int .i64 x.k,.int .i64 x.v,.slice A2 x.args.length c2,.slice B2 x.fs.length d2,.int .i64 x.rest] 27) (.cells #[.int .i64 y.k,.int .i64 y.v,.slice A3 y.args.length c3,.slice B3 y.fs.length d3,.int .i64 y.rest] 27)from hSw);go_simp;(try with_reducible rfl)
  try simp only[Act.put,List.setIfInBounds_toArray,List.set_cons_zero,List.set_cons_succ]
  refine tkc 1 (oi:={ dst:=some 16,op:=_,type:=_,pos:=_,after:=_,guard:=_ }) rfl (fun K hK=>?_)
  go_simp
  refine(lsmall_any (HF1.out.trans g0) Ta.out).mono ?_
  rintro e z1 ⟨q0,rfl,hq0,f9⟩
  have g1:=g0.trans f9
  go_simp
  refine hK.out _ _ (Box4.fr0 hHeld f9) (fun hHeld=>?_)
  clear hK K
  clear f9
  cases q0 with
  | false =>
   try simp only[Act.put,List.setIfInBounds_toArray,List.set_cons_zero,List.set_cons_succ]
   refine tk1 2 (oi:={ dst:=some 17,op:=_,type:=_,pos:=_,after:=_,guard:=_ }) (v:=?_) rfl (by rfl) ?_ ?_ (hS:=hHeld)
   rotate_left
   ·intro w' hSw;go_simp;(try with_reducible rfl)
   try simp only[Act.put,List.setIfInBounds_toArray,List.set_cons_zero,List.set_cons_succ]
   refine tk1 3 (oi:={ dst:=some 18,op:=_,type:=_,pos:=_,after:=_,guard:=_ }) (v:=?_) rfl (by rfl) ?_ ?_ (hS:=hHeld)
   rotate_left
   ·intro w' hSw;go_simp;(try with_reducible rfl)
   try simp only[Act.put,List.setIfInBounds_toArray,List.set_cons_zero,List.set_cons_succ]
   refine tk0 4 (oi:={ dst:=some 19,op:=_,type:=_,pos:=_,after:=_,guard:=_ }) rfl (by rfl) ?_ (hS:=hHeld)
   try simp only[Act.put,List.setIfInBounds_toArray,List.set_cons_zero,List.set_cons_succ]
   refine tk0 5 (oi:={ dst:=some 20,op:=_,type:=_,pos:=_,after:=_,guard:=_ }) rfl (by rfl) ?_ (hS:=hHeld)
   try simp only[Act.put,List.setIfInBounds_toArray,List.set_cons_zero,List.set_cons_succ]
   refine tk0 6 (oi:={ dst:=some 21,op:=_,type:=_,pos:=_,after:=_,guard:=_ }) rfl (by rfl) ?_ (hS:=hHeld)
   try simp only[Act.put,List.setIfInBounds_toArray,List.set_cons_zero,List.set_cons_succ]
   refine tk1 7 (oi:={ dst:=some 22,op:=_,type:=_,pos:=_,after:=_,guard:=_ }) (v:=?_) rfl (by rfl) ?_ ?_ (hS:=hHeld)
   rotate_left
   ·intro w' hSw;go_simp;(try with_reducible rfl)
   try simp only[Act.put,List.setIfInBounds_toArray,List.set_cons_zero,List.set_cons_succ]
   refine tk1 8 (oi:={ dst:=some 23,op:=_,type:=_,pos:=_,after:=_,guard:=_ }) (v:=?_) rfl (by rfl) ?_ ?_ (hS:=hHeld)
   rotate_left
   ·intro w' hSw;go_simp;(try with_reducible rfl)
   try simp only[Act.put,List.setIfInBounds_toArray,List.set_cons_zero,List.set_cons_succ]
   refine tk0 9 (oi:={ dst:=some 24,op:=_,type:=_,pos:=_,after:=_,guard:=_ }) rfl (by rfl) ?_ (hS:=hHeld)
   try simp only[Act.put,List.setIfInBounds_toArray,List.set_cons_zero,List.set_cons_succ]
   refine tk0 10 (oi:={ dst:=some 25,op:=_,type:=_,pos:=_,after:=_,guard:=_ }) rfl (by rfl) ?_ (hS:=hHeld)
   try simp only[Act.put,List.setIfInBounds_toArray,List.set_cons_zero,List.set_cons_succ]
   refine tk0 11 (oi:={ dst:=some 26,op:=_,type:=_,pos:=_,after:=_,guard:=_ }) rfl (by rfl) ?_ (hS:=hHeld)
   try simp only[Act.put,List.setIfInBounds_toArray,List.set_cons_zero,List.set_cons_succ]
   refine tk1 12 (oi:={ dst:=some 27,op:=_,type:=_,pos:=_,after:=_,guard:=_ }) (v:=?_) rfl (by rfl) ?_ ?_ (hS:=hHeld)
   rotate_left
   ·intro w' hSw;go_simp;(try with_reducible rfl)
   try simp only[Act.put,List.setIfInBounds_toArray,List.set_cons_zero,List.set_cons_succ]
   refine tk1 13 (oi:={ dst:=some 28,op:=_,type:=_,pos:=_,after:=_,guard:=_ }) (v:=?_) rfl (by rfl) ?_ ?_ (hS:=hHeld)
   rotate_left
   ·intro w' hSw;go_simp;(try with_reducible rfl)
   try simp only[Act.put,List.setIfInBounds_toArray,List.set_cons_zero,List.set_cons_succ]
   refine tk0 14 (oi:={ dst:=some 29,op:=_,type:=_,pos:=_,after:=_,guard:=_ }) rfl (by rfl) ?_ (hS:=hHeld)
   try simp only[Act.put,List.setIfInBounds_toArray,List.set_cons_zero,List.set_cons_succ]
   refine tk0 15 (oi:={ dst:=some 30,op:=_,type:=_,pos:=_,after:=_,guard:=_ }) rfl (by rfl) ?_ (hS:=hHeld)
   try simp only[Act.put,List.setIfInBounds_toArray,List.set_cons_zero,List.set_cons_succ]
   refine tk0 16 (oi:={ dst:=some 31,op:=_,type:=_,pos:=_,after:=_,guard:=_ }) rfl (by rfl) ?_ (hS:=hHeld)
   try simp only[Act.put,List.setIfInBounds_toArray,List.set_cons_zero,List.set_cons_succ]
   refine tk1 17 (oi:={ dst:=some 32,op:=_,type:=_,pos:=_,after:=_,guard:=_ }) (v:=?_) rfl (by rfl) ?_ ?_ (hS:=hHeld)
   rotate_left
   ·intro w' hSw;go_simp;(try with_reducible rfl)
   try simp only[Act.put,List.setIfInBounds_toArray,List.set_cons_zero,List.set_cons_succ]
   refine tk1 18 (oi:={ dst:=some 33,op:=_,type:=_,pos:=_,after:=_,guard:=_ }) (v:=?_) rfl (by rfl) ?_ ?_ (hS:=hHeld)
   rotate_left
   ·intro w' hSw;go_simp;(try with_reducible rfl)
   try simp only[Act.put,List.setIfInBounds_toArray,List.set_cons_zero,List.set_cons_succ]
   refine tk0 19 (oi:={ dst:=some 34,op:=_,type:=_,pos:=_,after:=_,guard:=_ }) rfl (by rfl) ?_ (hS:=hHeld)
   try simp only[Act.put,List.setIfInBounds_toArray,List.set_cons_zero,List.set_cons_succ]
   refine tk0 20 (oi:={ dst:=some 35,op:=_,type:=_,pos:=_,after:=_,guard:=_ }) rfl (by rfl) ?_ (hS:=hHeld)
   try simp only[Act.put,List.setIfInBounds_toArray,List.set_cons_zero,List.set_cons_succ]
   refine tk0 21 (oi:={ dst:=some 36,op:=_,type:=_,pos:=_,after:=_,guard:=_ }) rfl (by rfl) ?_ (hS:=hHeld)
   try simp only[Act.put,List.setIfInBounds_toArray,List.set_cons_zero,List.set_cons_succ]
   refine tk0 22 (oi:={ dst:=some 37,op:=_,type:=_,pos:=_,after:=_,guard:=_ }) rfl (by rfl) ?_ (hS:=hHeld)
   try simp only[Act.put,List.setIfInBounds_toArray,List.set_cons_zero,List.set_cons_succ]
   refine tk0 23 (oi:={ dst:=some 38,op:=_,type:=_,pos:=_,after:=_,guard:=_ }) rfl (by rfl) ?_ (hS:=hHeld)
   try simp only[Act.put,List.setIfInBounds_toArray,List.set_cons_zero,List.set_cons_succ]
   refine tk0 24 (oi:={ dst:=some 39,op:=_,type:=_,pos:=_,after:=_,guard:=_ }) rfl (by rfl) ?_ (hS:=hHeld)
   try simp only[Act.put,List.setIfInBounds_toArray,List.set_cons_zero,List.set_cons_succ]
   refine tk0 25 (oi:={ dst:=some 40,op:=_,type:=_,pos:=_,after:=_,guard:=_ }) rfl (by rfl) ?_ (hS:=hHeld)
   try simp only[Act.put,List.setIfInBounds_toArray,List.set_cons_zero,List.set_cons_succ]
   refine tk0 26 (oi:={ dst:=some 41,op:=_,type:=_,pos:=_,after:=_,guard:=_ }) rfl (by rfl) ?_ (hS:=hHeld)
   try simp only[Act.put,List.setIfInBounds_toArray,List.set_cons_zero,List.set_cons_succ]
   refine tk1 27 (oi:={ dst:=some 42,op:=_,type:=_,pos:=_,after:=_,guard:=_ }) (v:=?_) rfl (by rfl) ?_ ?_ (hS:=hHeld)
   rotate_left
   ·intro w' hSw;go_simp;(try with_reducible rfl)
   try simp only[Act.put,List.setIfInBounds_toArray,List.set_cons_zero,List.set_cons_succ]
   refine wpAnyH_done (by kernel_rfl) ?_ _
   go_wp2_with fail
   go_meet
   exact⟨true,rfl,Lib.hid (fun h=>by cases h),Lib.hid g1⟩
  | true =>
  try simp only[Act.put,List.setIfInBounds_toArray,List.set_cons_zero,List.set_cons_succ]
  replace hq0:=hq0 rfl
  refine tk1 2 (oi:={ dst:=some 17,op:=_,type:=_,pos:=_,after:=_,guard:=_ }) (v:=?_) rfl (by rfl) ?_ ?_ (hS:=hHeld)
  rotate_left
  ·intro w' hSw;go_simp;(try with_reducible rfl)
  try simp only[Act.put,List.setIfInBounds_toArray,List.set_cons_zero,List.set_cons_succ]
  refine tk1 3 (oi:={ dst:=some 18,op:=_,type:=_,pos:=_,after:=_,guard:=_ }) (v:=?_) rfl (by rfl) ?_ ?_ (hS:=hHeld)
  rotate_left
  ·intro w' hSw;go_simp;(try with_reducible rfl)
  try simp only[Act.put,List.setIfInBounds_toArray,List.set_cons_zero,List.set_cons_succ]
  refine tk1 4 (oi:={ dst:=some 19,op:=_,type:=_,pos:=_,after:=_,guard:=_ }) (v:=?_) rfl (by rfl) ?_ ?_ (hS:=hHeld)
  rotate_left
  ·intro w' hSw;have hc:=cells5 (show Box4 w' W.heap.size (.cells #[.int .i64 a.k,.int .i64 a.v,.slice A a.args.length c,.slice B a.fs.length d,.int .i64 a.rest] 27) (.cells #[.int .i64 b.k,.int .i64 b.v,.slice A' b.args.length c',.slice B' b.fs.length d',.int .i64 b.rest] 27) (.cells #[.int .i64 x.k,.int .i64 x.v,.slice A2 x.args.length c2,.slice B2 x.fs.length d2,.int .i64 x.rest] 27) (.cells #[.int .i64 y.k,.int .i64 y.v,.slice A3 y.args.length c3,.slice B3 y.fs.length d3,.int .i64 y.rest] 27)from hSw).2.1;have hl:=Box4.lt (show Box4 w' W.heap.size (.cells #[.int .i64 a.k,.int .i64 a.v,.slice A a.args.length c,.slice B a.fs.length d,.int .i64 a.rest] 27) (.cells #[.int .i64 b.k,.int .i64 b.v,.slice A' b.args.length c',.slice B' b.fs.length d',.int .i64 b.rest] 27) (.cells #[.int .i64 x.k,.int .i64 x.v,.slice A2 x.args.length c2,.slice B2 x.fs.length d2,.int .i64 x.rest] 27) (.cells #[.int .i64 y.k,.int .i64 y.v,.slice A3 y.args.length c3,.slice B3 y.fs.length d3,.int .i64 y.rest] 27)from hSw);go_simp;(try with_reducible rfl)
  try simp only[Act.put,List.setIfInBounds_toArray,List.set_cons_zero,List.set_cons_succ]
  refine tkc 5 (oi:={ dst:=some 20,op:=_,type:=_,pos:=_,after:=_,guard:=_ }) rfl (fun K hK=>?_)
  go_simp
  refine(lsmall_any (HF1.out.trans g1) Tb.out).mono ?_
  rintro e z2 ⟨q1,rfl,hq1,f9⟩
  have g2:=g1.trans f9
  go_simp
  refine hK.out _ _ (Box4.fr0 hHeld f9) (fun hHeld=>?_)
  clear hK K
  clear f9
  cases q1 with
  | false =>
   try simp only[Act.put,List.setIfInBounds_toArray,List.set_cons_zero,List.set_cons_succ]
   refine tk1 6 (oi:={ dst:=some 21,op:=_,type:=_,pos:=_,after:=_,guard:=_ }) (v:=?_) rfl (by rfl) ?_ ?_ (hS:=hHeld)
   rotate_left
   ·intro w' hSw;go_simp;(try with_reducible rfl)
   try simp only[Act.put,List.setIfInBounds_toArray,List.set_cons_zero,List.set_cons_succ]
   refine tk1 7 (oi:={ dst:=some 22,op:=_,type:=_,pos:=_,after:=_,guard:=_ }) (v:=?_) rfl (by rfl) ?_ ?_ (hS:=hHeld)
   rotate_left
   ·intro w' hSw;go_simp;(try with_reducible rfl)
   try simp only[Act.put,List.setIfInBounds_toArray,List.set_cons_zero,List.set_cons_succ]
   refine tk1 8 (oi:={ dst:=some 23,op:=_,type:=_,pos:=_,after:=_,guard:=_ }) (v:=?_) rfl (by rfl) ?_ ?_ (hS:=hHeld)
   rotate_left
   ·intro w' hSw;go_simp;(try with_reducible rfl)
   try simp only[Act.put,List.setIfInBounds_toArray,List.set_cons_zero,List.set_cons_succ]
   refine tk0 9 (oi:={ dst:=some 24,op:=_,type:=_,pos:=_,after:=_,guard:=_ }) rfl (by rfl) ?_ (hS:=hHeld)
   try simp only[Act.put,List.setIfInBounds_toArray,List.set_cons_zero,List.set_cons_succ]
   refine tk0 10 (oi:={ dst:=some 25,op:=_,type:=_,pos:=_,after:=_,guard:=_ }) rfl (by rfl) ?_ (hS:=hHeld)
   try simp only[Act.put,List.setIfInBounds_toArray,List.set_cons_zero,List.set_cons_succ]
   refine tk0 11 (oi:={ dst:=some 26,op:=_,type:=_,pos:=_,after:=_,guard:=_ }) rfl (by rfl) ?_ (hS:=hHeld)
   try simp only[Act.put,List.setIfInBounds_toArray,List.set_cons_zero,List.set_cons_succ]
   refine tk1 12 (oi:={ dst:=some 27,op:=_,type:=_,pos:=_,after:=_,guard:=_ }) (v:=?_) rfl (by rfl) ?_ ?_ (hS:=hHeld)
   rotate_left
   ·intro w' hSw;go_simp;(try with_reducible rfl)
   try simp only[Act.put,List.setIfInBounds_toArray,List.set_cons_zero,List.set_cons_succ]
   refine tk1 13 (oi:={ dst:=some 28,op:=_,type:=_,pos:=_,after:=_,guard:=_ }) (v:=?_) rfl (by rfl) ?_ ?_ (hS:=hHeld)
   rotate_left
   ·intro w' hSw;go_simp;(try with_reducible rfl)
   try simp only[Act.put,List.setIfInBounds_toArray,List.set_cons_zero,List.set_cons_succ]
   refine tk0 14 (oi:={ dst:=some 29,op:=_,type:=_,pos:=_,after:=_,guard:=_ }) rfl (by rfl) ?_ (hS:=hHeld)
   try simp only[Act.put,List.setIfInBounds_toArray,List.set_cons_zero,List.set_cons_succ]
   refine tk0 15 (oi:={ dst:=some 30,op:=_,type:=_,pos:=_,after:=_,guard:=_ }) rfl (by rfl) ?_ (hS:=hHeld)
   try simp only[Act.put,List.setIfInBounds_toArray,List.set_cons_zero,List.set_cons_succ]
   refine tk0 16 (oi:={ dst:=some 31,op:=_,type:=_,pos:=_,after:=_,guard:=_ }) rfl (by rfl) ?_ (hS:=hHeld)
   try simp only[Act.put,List.setIfInBounds_toArray,List.set_cons_zero,List.set_cons_succ]
   refine tk1 17 (oi:={ dst:=some 32,op:=_,type:=_,pos:=_,after:=_,guard:=_ }) (v:=?_) rfl (by rfl) ?_ ?_ (hS:=hHeld)
   rotate_left
   ·intro w' hSw;go_simp;(try with_reducible rfl)
   try simp only[Act.put,List.setIfInBounds_toArray,List.set_cons_zero,List.set_cons_succ]
   refine tk1 18 (oi:={ dst:=some 33,op:=_,type:=_,pos:=_,after:=_,guard:=_ }) (v:=?_) rfl (by rfl) ?_ ?_ (hS:=hHeld)
   rotate_left
   ·intro w' hSw;go_simp;(try with_reducible rfl)
   try simp only[Act.put,List.setIfInBounds_toArray,List.set_cons_zero,List.set_cons_succ]
   refine tk0 19 (oi:={ dst:=some 34,op:=_,type:=_,pos:=_,after:=_,guard:=_ }) rfl (by rfl) ?_ (hS:=hHeld)
   try simp only[Act.put,List.setIfInBounds_toArray,List.set_cons_zero,List.set_cons_succ]
   refine tk0 20 (oi:={ dst:=some 35,op:=_,type:=_,pos:=_,after:=_,guard:=_ }) rfl (by rfl) ?_ (hS:=hHeld)
   try simp only[Act.put,List.setIfInBounds_toArray,List.set_cons_zero,List.set_cons_succ]
   refine tk0 21 (oi:={ dst:=some 36,op:=_,type:=_,pos:=_,after:=_,guard:=_ }) rfl (by rfl) ?_ (hS:=hHeld)
   try simp only[Act.put,List.setIfInBounds_toArray,List.set_cons_zero,List.set_cons_succ]
   refine tk0 22 (oi:={ dst:=some 37,op:=_,type:=_,pos:=_,after:=_,guard:=_ }) rfl (by rfl) ?_ (hS:=hHeld)
   try simp only[Act.put,List.setIfInBounds_toArray,List.set_cons_zero,List.set_cons_succ]
   refine tk0 23 (oi:={ dst:=some 38,op:=_,type:=_,pos:=_,after:=_,guard:=_ }) rfl (by rfl) ?_ (hS:=hHeld)
   try simp only[Act.put,List.setIfInBounds_toArray,List.set_cons_zero,List.set_cons_succ]
   refine tk0 24 (oi:={ dst:=some 39,op:=_,type:=_,pos:=_,after:=_,guard:=_ }) rfl (by rfl) ?_ (hS:=hHeld)
   try simp only[Act.put,List.setIfInBounds_toArray,List.set_cons_zero,List.set_cons_succ]
   refine tk0 25 (oi:={ dst:=some 40,op:=_,type:=_,pos:=_,after:=_,guard:=_ }) rfl (by rfl) ?_ (hS:=hHeld)
   try simp only[Act.put,List.setIfInBounds_toArray,List.set_cons_zero,List.set_cons_succ]
   refine tk0 26 (oi:={ dst:=some 41,op:=_,type:=_,pos:=_,after:=_,guard:=_ }) rfl (by rfl) ?_ (hS:=hHeld)
   try simp only[Act.put,List.setIfInBounds_toArray,List.set_cons_zero,List.set_cons_succ]
   refine tk1 27 (oi:={ dst:=some 42,op:=_,type:=_,pos:=_,after:=_,guard:=_ }) (v:=?_) rfl (by rfl) ?_ ?_ (hS:=hHeld)
   rotate_left
   ·intro w' hSw;go_simp;(try with_reducible rfl)
   try simp only[Act.put,List.setIfInBounds_toArray,List.set_cons_zero,List.set_cons_succ]
   refine wpAnyH_done (by kernel_rfl) ?_ _
   go_wp2_with fail
   go_meet
   exact⟨true,rfl,Lib.hid (fun h=>by cases h),Lib.hid g2⟩
  | true =>
  try simp only[Act.put,List.setIfInBounds_toArray,List.set_cons_zero,List.set_cons_succ]
  replace hq1:=hq1 rfl
  refine tk1 6 (oi:={ dst:=some 21,op:=_,type:=_,pos:=_,after:=_,guard:=_ }) (v:=?_) rfl (by rfl) ?_ ?_ (hS:=hHeld)
  rotate_left
  ·intro w' hSw;go_simp;(try with_reducible rfl)
  try simp only[Act.put,List.setIfInBounds_toArray,List.set_cons_zero,List.set_cons_succ]
  refine tk1 7 (oi:={ dst:=some 22,op:=_,type:=_,pos:=_,after:=_,guard:=_ }) (v:=?_) rfl (by rfl) ?_ ?_ (hS:=hHeld)
  rotate_left
  ·intro w' hSw;go_simp;(try with_reducible rfl)
  try simp only[Act.put,List.setIfInBounds_toArray,List.set_cons_zero,List.set_cons_succ]
  refine tk1 8 (oi:={ dst:=some 23,op:=_,type:=_,pos:=_,after:=_,guard:=_ }) (v:=?_) rfl (by rfl) ?_ ?_ (hS:=hHeld)
  rotate_left
  ·intro w' hSw;go_simp;(try with_reducible rfl)
  try simp only[Act.put,List.setIfInBounds_toArray,List.set_cons_zero,List.set_cons_succ]
  refine tk1 9 (oi:={ dst:=some 24,op:=_,type:=_,pos:=_,after:=_,guard:=_ }) (v:=?_) rfl (by rfl) ?_ ?_ (hS:=hHeld)
  rotate_left
  ·intro w' hSw;have hc:=cells5 (show Box4 w' W.heap.size (.cells #[.int .i64 a.k,.int .i64 a.v,.slice A a.args.length c,.slice B a.fs.length d,.int .i64 a.rest] 27) (.cells #[.int .i64 b.k,.int .i64 b.v,.slice A' b.args.length c',.slice B' b.fs.length d',.int .i64 b.rest] 27) (.cells #[.int .i64 x.k,.int .i64 x.v,.slice A2 x.args.length c2,.slice B2 x.fs.length d2,.int .i64 x.rest] 27) (.cells #[.int .i64 y.k,.int .i64 y.v,.slice A3 y.args.length c3,.slice B3 y.fs.length d3,.int .i64 y.rest] 27)from hSw).2.2.1;have hl:=Box4.lt (show Box4 w' W.heap.size (.cells #[.int .i64 a.k,.int .i64 a.v,.slice A a.args.length c,.slice B a.fs.length d,.int .i64 a.rest] 27) (.cells #[.int .i64 b.k,.int .i64 b.v,.slice A' b.args.length c',.slice B' b.fs.length d',.int .i64 b.rest] 27) (.cells #[.int .i64 x.k,.int .i64 x.v,.slice A2 x.args.length c2,.slice B2 x.fs.length d2,.int .i64 x.rest] 27) (.cells #[.int .i64 y.k,.int .i64 y.v,.slice A3 y.args.length c3,.slice B3 y.fs.length d3,.int .i64 y.rest] 27)from hSw);go_simp;(try with_reducible rfl)
  try simp only[Act.put,List.setIfInBounds_toArray,List.set_cons_zero,List.set_cons_succ]
  refine tkc 10 (oi:={ dst:=some 25,op:=_,type:=_,pos:=_,after:=_,guard:=_ }) rfl (fun K hK=>?_)
  go_simp
  refine(lsmall_any (HF1.out.trans g2) Tx.out).mono ?_
  rintro e z3 ⟨q2,rfl,hq2,f9⟩
  have g3:=g2.trans f9
  go_simp
  refine hK.out _ _ (Box4.fr0 hHeld f9) (fun hHeld=>?_)
  clear hK K
  clear f9
  cases q2 with
  | false =>
   try simp only[Act.put,List.setIfInBounds_toArray,List.set_cons_zero,List.set_cons_succ]
   refine tk1 11 (oi:={ dst:=some 26,op:=_,type:=_,pos:=_,after:=_,guard:=_ }) (v:=?_) rfl (by rfl) ?_ ?_ (hS:=hHeld)
   rotate_left
   ·intro w' hSw;go_simp;(try with_reducible rfl)
   try simp only[Act.put,List.setIfInBounds_toArray,List.set_cons_zero,List.set_cons_succ]
   refine tk1 12 (oi:={ dst:=some 27,op:=_,type:=_,pos:=_,after:=_,guard:=_ }) (v:=?_) rfl (by rfl) ?_ ?_ (hS:=hHeld)
   rotate_left
   ·intro w' hSw;go_simp;(try with_reducible rfl)
   try simp only[Act.put,List.setIfInBounds_toArray,List.set_cons_zero,List.set_cons_succ]
   refine tk1 13 (oi:={ dst:=some 28,op:=_,type:=_,pos:=_,after:=_,guard:=_ }) (v:=?_) rfl (by rfl) ?_ ?_ (hS:=hHeld)
   rotate_left
   ·intro w' hSw;go_simp;(try with_reducible rfl)
   try simp only[Act.put,List.setIfInBounds_toArray,List.set_cons_zero,List.set_cons_succ]
   refine tk0 14 (oi:={ dst:=some 29,op:=_,type:=_,pos:=_,after:=_,guard:=_ }) rfl (by rfl) ?_ (hS:=hHeld)
   try simp only[Act.put,List.setIfInBounds_toArray,List.set_cons_zero,List.set_cons_succ]
   refine tk0 15 (oi:={ dst:=some 30,op:=_,type:=_,pos:=_,after:=_,guard:=_ }) rfl (by rfl) ?_ (hS:=hHeld)
   try simp only[Act.put,List.setIfInBounds_toArray,List.set_cons_zero,List.set_cons_succ]
   refine tk0 16 (oi:={ dst:=some 31,op:=_,type:=_,pos:=_,after:=_,guard:=_ }) rfl (by rfl) ?_ (hS:=hHeld)
   try simp only[Act.put,List.setIfInBounds_toArray,List.set_cons_zero,List.set_cons_succ]
   refine tk1 17 (oi:={ dst:=some 32,op:=_,type:=_,pos:=_,after:=_,guard:=_ }) (v:=?_) rfl (by rfl) ?_ ?_ (hS:=hHeld)
   rotate_left
   ·intro w' hSw;go_simp;(try with_reducible rfl)
   try simp only[Act.put,List.setIfInBounds_toArray,List.set_cons_zero,List.set_cons_succ]
   refine tk1 18 (oi:={ dst:=some 33,op:=_,type:=_,pos:=_,after:=_,guard:=_ }) (v:=?_) rfl (by rfl) ?_ ?_ (hS:=hHeld)
   rotate_left
   ·intro w' hSw;go_simp;(try with_reducible rfl)
   try simp only[Act.put,List.setIfInBounds_toArray,List.set_cons_zero,List.set_cons_succ]
   refine tk0 19 (oi:={ dst:=some 34,op:=_,type:=_,pos:=_,after:=_,guard:=_ }) rfl (by rfl) ?_ (hS:=hHeld)
   try simp only[Act.put,List.setIfInBounds_toArray,List.set_cons_zero,List.set_cons_succ]
   refine tk0 20 (oi:={ dst:=some 35,op:=_,type:=_,pos:=_,after:=_,guard:=_ }) rfl (by rfl) ?_ (hS:=hHeld)
   try simp only[Act.put,List.setIfInBounds_toArray,List.set_cons_zero,List.set_cons_succ]
   refine tk0 21 (oi:={ dst:=some 36,op:=_,type:=_,pos:=_,after:=_,guard:=_ }) rfl (by rfl) ?_ (hS:=hHeld)
   try simp only[Act.put,List.setIfInBounds_toArray,List.set_cons_zero,List.set_cons_succ]
   refine tk0 22 (oi:={ dst:=some 37,op:=_,type:=_,pos:=_,after:=_,guard:=_ }) rfl (by rfl) ?_ (hS:=hHeld)
   try simp only[Act.put,List.setIfInBounds_toArray,List.set_cons_zero,List.set_cons_succ]
   refine tk0 23 (oi:={ dst:=some 38,op:=_,type:=_,pos:=_,after:=_,guard:=_ }) rfl (by rfl) ?_ (hS:=hHeld)
   try simp only[Act.put,List.setIfInBounds_toArray,List.set_cons_zero,List.set_cons_succ]
   refine tk0 24 (oi:={ dst:=some 39,op:=_,type:=_,pos:=_,after:=_,guard:=_ }) rfl (by rfl) ?_ (hS:=hHeld)
   try simp only[Act.put,List.setIfInBounds_toArray,List.set_cons_zero,List.set_cons_succ]
   refine tk0 25 (oi:={ dst:=some 40,op:=_,type:=_,pos:=_,after:=_,guard:=_ }) rfl (by rfl) ?_ (hS:=hHeld)
   try simp only[Act.put,List.setIfInBounds_toArray,List.set_cons_zero,List.set_cons_succ]
   refine tk0 26 (oi:={ dst:=some 41,op:=_,type:=_,pos:=_,after:=_,guard:=_ }) rfl (by rfl) ?_ (hS:=hHeld)
   try simp only[Act.put,List.setIfInBounds_toArray,List.set_cons_zero,List.set_cons_succ]
   refine tk1 27 (oi:={ dst:=some 42,op:=_,type:=_,pos:=_,after:=_,guard:=_ }) (v:=?_) rfl (by rfl) ?_ ?_ (hS:=hHeld)
   rotate_left
   ·intro w' hSw;go_simp;(try with_reducible rfl)
   try simp only[Act.put,List.setIfInBounds_toArray,List.set_cons_zero,List.set_cons_succ]
   refine wpAnyH_done (by kernel_rfl) ?_ _
   go_wp2_with fail
   go_meet
   exact⟨true,rfl,Lib.hid (fun h=>by cases h),Lib.hid g3⟩
  | true =>
  try simp only[Act.put,List.setIfInBounds_toArray,List.set_cons_zero,List.set_cons_succ]
  replace hq2:=hq2 rfl
  refine tk1 11 (oi:={ dst:=some 26,op:=_,type:=_,pos:=_,after:=_,guard:=_ }) (v:=?_) rfl (by rfl) ?_ ?_ (hS:=hHeld)
  rotate_left
  ·intro w' hSw;go_simp;(try with_reducible rfl)
  try simp only[Act.put,List.setIfInBounds_toArray,List.set_cons_zero,List.set_cons_succ]
  refine tk1 12 (oi:={ dst:=some 27,op:=_,type:=_,pos:=_,after:=_,guard:=_ }) (v:=?_) rfl (by rfl) ?_ ?_ (hS:=hHeld)
  rotate_left
  ·intro w' hSw;go_simp;(try with_reducible rfl)
  try simp only[Act.put,List.setIfInBounds_toArray,List.set_cons_zero,List.set_cons_succ]
  refine tk1 13 (oi:={ dst:=some 28,op:=_,type:=_,pos:=_,after:=_,guard:=_ }) (v:=?_) rfl (by rfl) ?_ ?_ (hS:=hHeld)
  rotate_left
  ·intro w' hSw;go_simp;(try with_reducible rfl)
  try simp only[Act.put,List.setIfInBounds_toArray,List.set_cons_zero,List.set_cons_succ]
  refine tk1 14 (oi:={ dst:=some 29,op:=_,type:=_,pos:=_,after:=_,guard:=_ }) (v:=?_) rfl (by rfl) ?_ ?_ (hS:=hHeld)
  rotate_left
  ·intro w' hSw;have hc:=cells5 (show Box4 w' W.heap.size (.cells #[.int .i64 a.k,.int .i64 a.v,.slice A a.args.length c,.slice B a.fs.length d,.int .i64 a.rest] 27) (.cells #[.int .i64 b.k,.int .i64 b.v,.slice A' b.args.length c',.slice B' b.fs.length d',.int .i64 b.rest] 27) (.cells #[.int .i64 x.k,.int .i64 x.v,.slice A2 x.args.length c2,.slice B2 x.fs.length d2,.int .i64 x.rest] 27) (.cells #[.int .i64 y.k,.int .i64 y.v,.slice A3 y.args.length c3,.slice B3 y.fs.length d3,.int .i64 y.rest] 27)from hSw).2.2.2;have hl:=Box4.lt (show Box4 w' W.heap.size (.cells #[.int .i64 a.k,.int .i64 a.v,.slice A a.args.length c,.slice B a.fs.length d,.int .i64 a.rest] 27) (.cells #[.int .i64 b.k,.int .i64 b.v,.slice A' b.args.length c',.slice B' b.fs.length d',.int .i64 b.rest] 27) (.cells #[.int .i64 x.k,.int .i64 x.v,.slice A2 x.args.length c2,.slice B2 x.fs.length d2,.int .i64 x.rest] 27) (.cells #[.int .i64 y.k,.int .i64 y.v,.slice A3 y.args.length c3,.slice B3 y.fs.length d3,.int .i64 y.rest] 27)from hSw);go_simp;(try with_reducible rfl)
  try simp only[Act.put,List.setIfInBounds_toArray,List.set_cons_zero,List.set_cons_succ]
  refine tkc 15 (oi:={ dst:=some 30,op:=_,type:=_,pos:=_,after:=_,guard:=_ }) rfl (fun K hK=>?_)
  go_simp
  refine(lsmall_any (HF1.out.trans g3) Ty.out).mono ?_
  rintro e z4 ⟨q3,rfl,hq3,f9⟩
  have g4:=g3.trans f9
  go_simp
  refine hK.out _ _ (Box4.fr0 hHeld f9) (fun hHeld=>?_)
  clear hK K
  clear f9
  cases q3 with
  | false =>
   try simp only[Act.put,List.setIfInBounds_toArray,List.set_cons_zero,List.set_cons_succ]
   refine tk1 16 (oi:={ dst:=some 31,op:=_,type:=_,pos:=_,after:=_,guard:=_ }) (v:=?_) rfl (by rfl) ?_ ?_ (hS:=hHeld)
   rotate_left
   ·intro w' hSw;go_simp;(try with_reducible rfl)
   try simp only[Act.put,List.setIfInBounds_toArray,List.set_cons_zero,List.set_cons_succ]
   refine tk1 17 (oi:={ dst:=some 32,op:=_,type:=_,pos:=_,after:=_,guard:=_ }) (v:=?_) rfl (by rfl) ?_ ?_ (hS:=hHeld)
   rotate_left
   ·intro w' hSw;go_simp;(try with_reducible rfl)
   try simp only[Act.put,List.setIfInBounds_toArray,List.set_cons_zero,List.set_cons_succ]
   refine tk1 18 (oi:={ dst:=some 33,op:=_,type:=_,pos:=_,after:=_,guard:=_ }) (v:=?_) rfl (by rfl) ?_ ?_ (hS:=hHeld)
   rotate_left
   ·intro w' hSw;go_simp;(try with_reducible rfl)
   try simp only[Act.put,List.setIfInBounds_toArray,List.set_cons_zero,List.set_cons_succ]
   refine tk0 19 (oi:={ dst:=some 34,op:=_,type:=_,pos:=_,after:=_,guard:=_ }) rfl (by rfl) ?_ (hS:=hHeld)
   try simp only[Act.put,List.setIfInBounds_toArray,List.set_cons_zero,List.set_cons_succ]
   refine tk0 20 (oi:={ dst:=some 35,op:=_,type:=_,pos:=_,after:=_,guard:=_ }) rfl (by rfl) ?_ (hS:=hHeld)
   try simp only[Act.put,List.setIfInBounds_toArray,List.set_cons_zero,List.set_cons_succ]
   refine tk0 21 (oi:={ dst:=some 36,op:=_,type:=_,pos:=_,after:=_,guard:=_ }) rfl (by rfl) ?_ (hS:=hHeld)
   try simp only[Act.put,List.setIfInBounds_toArray,List.set_cons_zero,List.set_cons_succ]
   refine tk0 22 (oi:={ dst:=some 37,op:=_,type:=_,pos:=_,after:=_,guard:=_ }) rfl (by rfl) ?_ (hS:=hHeld)
   try simp only[Act.put,List.setIfInBounds_toArray,List.set_cons_zero,List.set_cons_succ]
   refine tk0 23 (oi:={ dst:=some 38,op:=_,type:=_,pos:=_,after:=_,guard:=_ }) rfl (by rfl) ?_ (hS:=hHeld)
   try simp only[Act.put,List.setIfInBounds_toArray,List.set_cons_zero,List.set_cons_succ]
   refine tk0 24 (oi:={ dst:=some 39,op:=_,type:=_,pos:=_,after:=_,guard:=_ }) rfl (by rfl) ?_ (hS:=hHeld)
   try simp only[Act.put,List.setIfInBounds_toArray,List.set_cons_zero,List.set_cons_succ]
   refine tk0 25 (oi:={ dst:=some 40,op:=_,type:=_,pos:=_,after:=_,guard:=_ }) rfl (by rfl) ?_ (hS:=hHeld)
   try simp only[Act.put,List.setIfInBounds_toArray,List.set_cons_zero,List.set_cons_succ]
   refine tk0 26 (oi:={ dst:=some 41,op:=_,type:=_,pos:=_,after:=_,guard:=_ }) rfl (by rfl) ?_ (hS:=hHeld)
   try simp only[Act.put,List.setIfInBounds_toArray,List.set_cons_zero,List.set_cons_succ]
   refine tk1 27 (oi:={ dst:=some 42,op:=_,type:=_,pos:=_,after:=_,guard:=_ }) (v:=?_) rfl (by rfl) ?_ ?_ (hS:=hHeld)
   rotate_left
   ·intro w' hSw;go_simp;(try with_reducible rfl)
   try simp only[Act.put,List.setIfInBounds_toArray,List.set_cons_zero,List.set_cons_succ]
   refine wpAnyH_done (by kernel_rfl) ?_ _
   go_wp2_with fail
   go_meet
   exact⟨true,rfl,Lib.hid (fun h=>by cases h),Lib.hid g4⟩
  | true =>
  try simp only[Act.put,List.setIfInBounds_toArray,List.set_cons_zero,List.set_cons_succ]
  replace hq3:=hq3 rfl
  refine tk1 16 (oi:={ dst:=some 31,op:=_,type:=_,pos:=_,after:=_,guard:=_ }) (v:=?_) rfl (by rfl) ?_ ?_ (hS:=hHeld)
  rotate_left
  ·intro w' hSw;go_simp;(try with_reducible rfl)
  try simp only[Act.put,List.setIfInBounds_toArray,List.set_cons_zero,List.set_cons_succ]
  refine tk1 17 (oi:={ dst:=some 32,op:=_,type:=_,pos:=_,after:=_,guard:=_ }) (v:=?_) rfl (by rfl) ?_ ?_ (hS:=hHeld)
  rotate_left
  ·intro w' hSw;go_simp;(try with_reducible rfl)
  try simp only[Act.put,List.setIfInBounds_toArray,List.set_cons_zero,List.set_cons_succ]
  refine tk1 18 (oi:={ dst:=some 33,op:=_,type:=_,pos:=_,after:=_,guard:=_ }) (v:=?_) rfl (by rfl) ?_ ?_ (hS:=hHeld)
  rotate_left
  ·intro w' hSw;go_simp;(try with_reducible rfl)
  try simp only[Act.put,List.setIfInBounds_toArray,List.set_cons_zero,List.set_cons_succ]
  refine tk1 19 (oi:={ dst:=some 34,op:=_,type:=_,pos:=_,after:=_,guard:=_ }) (v:=?_) rfl (by rfl) ?_ ?_ (hS:=hHeld)
  rotate_left
  ·intro w' hSw;have hc:=cells5 (show Box4 w' W.heap.size (.cells #[.int .i64 a.k,.int .i64 a.v,.slice A a.args.length c,.slice B a.fs.length d,.int .i64 a.rest] 27) (.cells #[.int .i64 b.k,.int .i64 b.v,.slice A' b.args.length c',.slice B' b.fs.length d',.int .i64 b.rest] 27) (.cells #[.int .i64 x.k,.int .i64 x.v,.slice A2 x.args.length c2,.slice B2 x.fs.length d2,.int .i64 x.rest] 27) (.cells #[.int .i64 y.k,.int .i64 y.v,.slice A3 y.args.length c3,.slice B3 y.fs.length d3,.int .i64 y.rest] 27)from hSw).1;have hl:=Box4.lt (show Box4 w' W.heap.size (.cells #[.int .i64 a.k,.int .i64 a.v,.slice A a.args.length c,.slice B a.fs.length d,.int .i64 a.rest] 27) (.cells #[.int .i64 b.k,.int .i64 b.v,.slice A' b.args.length c',.slice B' b.fs.length d',.int .i64 b.rest] 27) (.cells #[.int .i64 x.k,.int .i64 x.v,.slice A2 x.args.length c2,.slice B2 x.fs.length d2,.int .i64 x.rest] 27) (.cells #[.int .i64 y.k,.int .i64 y.v,.slice A3 y.args.length c3,.slice B3 y.fs.length d3,.int .i64 y.rest] 27)from hSw);go_simp;(try with_reducible rfl)
  try simp only[Act.put,List.setIfInBounds_toArray,List.set_cons_zero,List.set_cons_succ]
  refine tk1 20 (oi:={ dst:=some 35,op:=_,type:=_,pos:=_,after:=_,guard:=_ }) (v:=?_) rfl (by rfl) ?_ ?_ (hS:=hHeld)
  rotate_left
  ·intro w' hSw;have hc:=cells5 (show Box4 w' W.heap.size (.cells #[.int .i64 a.k,.int .i64 a.v,.slice A a.args.length c,.slice B a.fs.length d,.int .i64 a.rest] 27) (.cells #[.int .i64 b.k,.int .i64 b.v,.slice A' b.args.length c',.slice B' b.fs.length d',.int .i64 b.rest] 27) (.cells #[.int .i64 x.k,.int .i64 x.v,.slice A2 x.args.length c2,.slice B2 x.fs.length d2,.int .i64 x.rest] 27) (.cells #[.int .i64 y.k,.int .i64 y.v,.slice A3 y.args.length c3,.slice B3 y.fs.length d3,.int .i64 y.rest] 27)from hSw).2.1;have hl:=Box4.lt (show Box4 w' W.heap.size (.cells #[.int .i64 a.k,.int .i64 a.v,.slice A a.args.length c,.slice B a.fs.length d,.int .i64 a.rest] 27) (.cells #[.int .i64 b.k,.int .i64 b.v,.slice A' b.args.length c',.slice B' b.fs.length d',.int .i64 b.rest] 27) (.cells #[.int .i64 x.k,.int .i64 x.v,.slice A2 x.args.length c2,.slice B2 x.fs.length d2,.int .i64 x.rest] 27) (.cells #[.int .i64 y.k,.int .i64 y.v,.slice A3 y.args.length c3,.slice B3 y.fs.length d3,.int .i64 y.rest] 27)from hSw);go_simp;(try with_reducible rfl)
  try simp only[Act.put,List.setIfInBounds_toArray,List.set_cons_zero,List.set_cons_succ]
  refine tk1 22 (oi:={ dst:=some 37,op:=_,type:=_,pos:=_,after:=_,guard:=_ }) (v:=?_) rfl (by rfl) ?_ ?_ (hS:=hHeld)
  rotate_left
  ·intro w' hSw;have hc:=cells5 (show Box4 w' W.heap.size (.cells #[.int .i64 a.k,.int .i64 a.v,.slice A a.args.length c,.slice B a.fs.length d,.int .i64 a.rest] 27) (.cells #[.int .i64 b.k,.int .i64 b.v,.slice A' b.args.length c',.slice B' b.fs.length d',.int .i64 b.rest] 27) (.cells #[.int .i64 x.k,.int .i64 x.v,.slice A2 x.args.length c2,.slice B2 x.fs.length d2,.int .i64 x.rest] 27) (.cells #[.int .i64 y.k,.int .i64 y.v,.slice A3 y.args.length c3,.slice B3 y.fs.length d3,.int .i64 y.rest] 27)from hSw).2.2.1;have hl:=Box4.lt (show Box4 w' W.heap.size (.cells #[.int .i64 a.k,.int .i64 a.v,.slice A a.args.length c,.slice B a.fs.length d,.int .i64 a.rest] 27) (.cells #[.int .i64 b.k,.int .i64 b.v,.slice A' b.args.length c',.slice B' b.fs.length d',.int .i64 b.rest] 27) (.cells #[.int .i64 x.k,.int .i64 x.v,.slice A2 x.args.length c2,.slice B2 x.fs.length d2,.int .i64 x.rest] 27) (.cells #[.int .i64 y.k,.int .i64 y.v,.slice A3 y.args.length c3,.slice B3 y.fs.length d3,.int .i64 y.rest] 27)from hSw);go_simp;(try with_reducible rfl)
  try simp only[Act.put,List.setIfInBounds_toArray,List.set_cons_zero,List.set_cons_succ]
  refine tk1 23 (oi:={ dst:=some 38,op:=_,type:=_,pos:=_,after:=_,guard:=_ }) (v:=?_) rfl (by rfl) ?_ ?_ (hS:=hHeld)
  rotate_left
  ·intro w' hSw;have hc:=cells5 (show Box4 w' W.heap.size (.cells #[.int .i64 a.k,.int .i64 a.v,.slice A a.args.length c,.slice B a.fs.length d,.int .i64 a.rest] 27) (.cells #[.int .i64 b.k,.int .i64 b.v,.slice A' b.args.length c',.slice B' b.fs.length d',.int .i64 b.rest] 27) (.cells #[.int .i64 x.k,.int .i64 x.v,.slice A2 x.args.length c2,.slice B2 x.fs.length d2,.int .i64 x.rest] 27) (.cells #[.int .i64 y.k,.int .i64 y.v,.slice A3 y.args.length c3,.slice B3 y.fs.length d3,.int .i64 y.rest] 27)from hSw).2.2.2;have hl:=Box4.lt (show Box4 w' W.heap.size (.cells #[.int .i64 a.k,.int .i64 a.v,.slice A a.args.length c,.slice B a.fs.length d,.int .i64 a.rest] 27) (.cells #[.int .i64 b.k,.int .i64 b.v,.slice A' b.args.length c',.slice B' b.fs.length d',.int .i64 b.rest] 27) (.cells #[.int .i64 x.k,.int .i64 x.v,.slice A2 x.args.length c2,.slice B2 x.fs.length d2,.int .i64 x.rest] 27) (.cells #[.int .i64 y.k,.int .i64 y.v,.slice A3 y.args.length c3,.slice B3 y.fs.length d3,.int .i64 y.rest] 27)from hSw);go_simp;(try with_reducible rfl)
  try simp only[Act.put,List.setIfInBounds_toArray,List.set_cons_zero,List.set_cons_succ]
  refine tkc 21 (oi:={ dst:=some 36,op:=_,type:=_,pos:=_,after:=_,guard:=_ }) rfl (fun K hK=>?_)
  go_simp
  refine(lfun2 EAB.out (Ta.out.keep (sh0 (HF1.out.trans g4))) (Tb.out.keep (sh0 (HF1.out.trans g4)))).mono ?_
  rintro e z5 ⟨X1,rfl,ht1,f9⟩
  have g5:=g4.trans f9
  go_simp
  refine hK.out _ _ (Box4.fr0 hHeld f9) (fun hHeld=>?_)
  clear hK K
  have HT1:=Lib.hid ht1
  clear ht1 f9
  try simp only[Act.put,List.setIfInBounds_toArray,List.set_cons_zero,List.set_cons_succ]
  refine tkc 24 (oi:={ dst:=some 39,op:=_,type:=_,pos:=_,after:=_,guard:=_ }) rfl (fun K hK=>?_)
  go_simp
  refine(lfun2 EXY.out (Tx.out.keep (sh0 (HF1.out.trans g5))) (Ty.out.keep (sh0 (HF1.out.trans g5)))).mono ?_
  rintro e z6 ⟨X2,rfl,ht2,f9⟩
  have g6:=g5.trans f9
  go_simp
  refine hK.out _ _ (Box4.fr0 hHeld f9) (fun hHeld=>?_)
  clear hK K
  have HT2:=Lib.hid ht2
  have HT1':=Lib.hid (HT1.out.keep (sh0 f9))
  clear ht2 f9 HT1
  try simp only[Act.put,List.setIfInBounds_toArray,List.set_cons_zero,List.set_cons_succ]
  refine tkc 25 (oi:={ dst:=some 40,op:=_,type:=_,pos:=_,after:=_,guard:=_ }) rfl (fun K hK=>?_)
  go_simp
  refine(ltogether5 HT1'.out HT2.out (by rw[EAB.out,sz_fn];have:=hq0.1;have:=hq1.1;omega) (by rw[EXY.out,sz_fn];have:=hq2.1;have:=hq3.1;omega)).mono ?_
  rintro e z7 ⟨q5,rfl,hq5,f9⟩
  have g7:=g6.trans f9
  go_simp
  refine hK.out _ _ (Box4.fr0 hHeld f9) (fun hHeld=>?_)
  clear hK K
  clear f9 HT1' HT2
  cases q5 with
  | false =>
   try simp only[Act.put,List.setIfInBounds_toArray,List.set_cons_zero,List.set_cons_succ]
   refine tk1 26 (oi:={ dst:=some 41,op:=_,type:=_,pos:=_,after:=_,guard:=_ }) (v:=?_) rfl (by rfl) ?_ ?_ (hS:=hHeld)
   rotate_left
   ·intro w' hSw;go_simp;(try with_reducible rfl)
   try simp only[Act.put,List.setIfInBounds_toArray,List.set_cons_zero,List.set_cons_succ]
   refine tk1 27 (oi:={ dst:=some 42,op:=_,type:=_,pos:=_,after:=_,guard:=_ }) (v:=?_) rfl (by rfl) ?_ ?_ (hS:=hHeld)
   rotate_left
   ·intro w' hSw;go_simp;(try with_reducible rfl)
   try simp only[Act.put,List.setIfInBounds_toArray,List.set_cons_zero,List.set_cons_succ]
   refine wpAnyH_done (by kernel_rfl) ?_ _
   go_wp2_with fail
   go_meet
   exact⟨true,rfl,Lib.hid (fun h=>by cases h),Lib.hid g7⟩
  | true =>
   try simp only[Act.put,List.setIfInBounds_toArray,List.set_cons_zero,List.set_cons_succ]
   replace hq5:=hq5 rfl
   refine tk1 26 (oi:={ dst:=some 41,op:=_,type:=_,pos:=_,after:=_,guard:=_ }) (v:=?_) rfl (by rfl) ?_ ?_ (hS:=hHeld)
   rotate_left
   ·intro w' hSw;go_simp;(try with_reducible rfl)
   try simp only[Act.put,List.setIfInBounds_toArray,List.set_cons_zero,List.set_cons_succ]
   refine tk1 27 (oi:={ dst:=some 42,op:=_,type:=_,pos:=_,after:=_,guard:=_ }) (v:=?_) rfl (by rfl) ?_ ?_ (hS:=hHeld)
   rotate_left
   ·intro w' hSw;go_simp;(try with_reducible rfl)
   try simp only[Act.put,List.setIfInBounds_toArray,List.set_cons_zero,List.set_cons_succ]
   refine wpAnyH_done (by kernel_rfl) ?_ _
   go_wp2_with fail
   go_meet
   exact⟨false,rfl,Lib.hid (fun _=>⟨hq0.1,hq1.1,hq2.1,hq3.1,hq0.2,hq1.2,hq2.2,hq3.2,by rw[← EAB.out,← EXY.out];exact hq5⟩),Lib.hid g7⟩
 case rest =>
  obtain⟨q,rfl,HR3,F2⟩:=hcut
  have J2:=Lib.hid (J1.out.fr0 F2.out)
  have HF2:=Lib.hid (HF1.out.trans F2.out)
  clear J1 HF1 F2
  cases q with
  | true =>
   go_wp2_with fail
   go_ret
   exact⟨by first|rfl|simp,HF2.out⟩
  | false =>
  have h3:=HR3.out rfl
  obtain⟨G,hp,hr,wa,wb,wx,wy,hok,hbd⟩:=mayG_parts h3
  have z1:szT ab≤5000:=by rw[EAB.out,sz_fn];have:=h3.sa;have:=h3.sb;omega
  have z2:szT xy≤5000:=by rw[EXY.out,sz_fn];have:=h3.sx;have:=h3.sy;omega
  have wab:WfT G ab:=by rw[EAB.out];exact wf_fnT.2 ⟨wa,wb⟩
  have wxy:WfT G xy:=by rw[EXY.out];exact wf_fnT.2 ⟨wx,wy⟩
  have wal:WfT G al:=by rw[EAL.out];exact wf_fnT.2 ⟨wab,wxy⟩
  have hfew:=few5 wab wxy z1 z2
  have Ta2:=Lib.hid (Ta.out.labs (Q:=(· ∈ labT ab++labT xy)) (fun z hz=>List.mem_append_left _ (by rw[EAB.out];exact lab_fnl z hz)))
  have Tb2:=Lib.hid (Tb.out.labs (Q:=(· ∈ labT ab++labT xy)) (fun z hz=>List.mem_append_left _ (by rw[EAB.out];exact lab_fnr z hz)))
  have Tx2:=Lib.hid (Tx.out.labs (Q:=(· ∈ labT ab++labT xy)) (fun z hz=>List.mem_append_right _ (by rw[EXY.out];exact lab_fnl z hz)))
  have Ty2:=Lib.hid (Ty.out.labs (Q:=(· ∈ labT ab++labT xy)) (fun z hz=>List.mem_append_right _ (by rw[EXY.out];exact lab_fnr z hz)))
  rw[← EAB.out,← EXY.out] at hok hbd
  have HP:=Lib.hid hp
  have HR:=Lib.hid hr
  have WA:=Lib.hid wa
  have WB:=Lib.hid wb
  have WX:=Lib.hid wx
  have WY:=Lib.hid wy
  have WAB:=Lib.hid wab
  have WXY:=Lib.hid wxy
  have WAL:=Lib.hid wal
  have HOK:=Lib.hid hok
  have HBD:=Lib.hid hbd
  have HFEW:=Lib.hid hfew
  obtain⟨m0,hm0⟩:∃ m0,m0=seenT xy (seenT ab 0):=⟨_,rfl⟩
  have HM0:=Lib.hid hm0
  have hal:seenT al 0=m0:=by rw[EAL.out,seen_fn _ _ (by decide),hm0]
  have HALS:=Lib.hid hal
  have hps:∀ m,m0≤m→seenT a m=m∧seenT b m=m∧seenT x m=m∧seenT y m=m:=fun m h=>parts_seen (by rw[← EAB.out,← EXY.out,← hm0];exact h)
  have HPS:=Lib.hid hps
  clear h3 hp hr wa wb wx wy hok hbd z1 z2 wab wxy wal hfew hm0 hal hps Ta Tb Tx Ty HR3
  have hs2:=HF2.out.size
  have hj2:=J2.out.lt
  go_wp2_with fail
  refine(sv_New _ (by omega)).mono ?_
  rintro e w3 ⟨Q,rfl,hQ,f3,hS⟩
  have S3:=Lib.hid (hS G _ HP.out HR.out HFEW.out)
  have J3:=Lib.hid (J2.out.fr0 f3)
  have HF3:=Lib.hid (HF2.out.trans f3)
  have hq3:=S3.out.at_.lt
  have hs3:=HF3.out.size
  clear f3 hS J2
  go_wp2_with fail
  refine(sv_New _ (by omega)).mono ?_
  rintro e w4 ⟨Q2,rfl,hQ2,f4,hS⟩
  have S4:=Lib.hid (S3.out.fr f4)
  have U4:=Lib.hid (hS G _ HP.out HR.out HFEW.out)
  have J4:=Lib.hid (J3.out.fr0 f4)
  have HF4:=Lib.hid (HF3.out.trans f4)
  have hq4:=U4.out.at_.lt
  have hs4:=HF4.out.size
  clear f4 hS J3 S3
  have hTQ:W.heap.size+4≤Q:=by omega
  have hQQ:Q<Q2:=by omega
  go_wp2_with fail
  refine wp_region_held_drew (S:=fun w'=>Box4 w' W.heap.size (.cells #[.int .i64 a.k,.int .i64 a.v,.slice A a.args.length c,.slice B a.fs.length d,.int .i64 a.rest] 27) (.cells #[.int .i64 b.k,.int .i64 b.v,.slice A' b.args.length c',.slice B' b.fs.length d',.int .i64 b.rest] 27) (.cells #[.int .i64 x.k,.int .i64 x.v,.slice A2 x.args.length c2,.slice B2 x.fs.length d2,.int .i64 x.rest] 27) (.cells #[.int .i64 y.k,.int .i64 y.v,.slice A3 y.args.length c3,.slice B3 y.fs.length d3,.int .i64 y.rest] 27)) (by kernel_rfl) ?_ (fun hHeld=>?_)
  ·exact J4.out.fr0 (Fr.refl [] w4).drew
  have g0:Fr [] w4 w4.drew:=(Fr.refl [] w4).drew
  refine tk1 0 (oi:={ dst:=some 45,op:=_,type:=_,pos:=_,after:=_,guard:=_ }) (v:=?_) rfl (by rfl) ?_ ?_ (hS:=hHeld)
  rotate_left
  ·intro w' hSw;go_simp;(try with_reducible rfl)
  try simp only[Act.put,List.setIfInBounds_toArray,List.set_cons_zero,List.set_cons_succ]
  refine tk1 1 (oi:={ dst:=some 46,op:=_,type:=_,pos:=_,after:=_,guard:=_ }) (v:=?_) rfl (by rfl) ?_ ?_ (hS:=hHeld)
  rotate_left
  ·intro w' hSw;have hc:=cells5 (show Box4 w' W.heap.size (.cells #[.int .i64 a.k,.int .i64 a.v,.slice A a.args.length c,.slice B a.fs.length d,.int .i64 a.rest] 27) (.cells #[.int .i64 b.k,.int .i64 b.v,.slice A' b.args.length c',.slice B' b.fs.length d',.int .i64 b.rest] 27) (.cells #[.int .i64 x.k,.int .i64 x.v,.slice A2 x.args.length c2,.slice B2 x.fs.length d2,.int .i64 x.rest] 27) (.cells #[.int .i64 y.k,.int .i64 y.v,.slice A3 y.args.length c3,.slice B3 y.fs.length d3,.int .i64 y.rest] 27)from hSw).1;have hl:=Box4.lt (show Box4 w' W.heap.size (.cells #[.int .i64 a.k,.int .i64 a.v,.slice A a.args.length c,.slice B a.fs.length d,.int .i64 a.rest] 27) (.cells #[.int .i64 b.k,.int .i64 b.v,.slice A' b.args.length c',.slice B' b.fs.length d',.int .i64 b.rest] 27) (.cells #[.int .i64 x.k,.int .i64 x.v,.slice A2 x.args.length c2,.slice B2 x.fs.length d2,.int .i64 x.rest] 27) (.cells #[.int .i64 y.k,.int .i64 y.v,.slice A3 y.args.length c3,.slice B3 y.fs.length d3,.int .i64 y.rest] 27)from hSw);go_simp;(try with_reducible rfl)
  try simp only[Act.put,List.setIfInBounds_toArray,List.set_cons_zero,List.set_cons_succ]
  refine tk1 2 (oi:={ dst:=some 47,op:=_,type:=_,pos:=_,after:=_,guard:=_ }) (v:=?_) rfl (by rfl) ?_ ?_ (hS:=hHeld)
  rotate_left
  ·intro w' hSw;have hc:=cells5 (show Box4 w' W.heap.size (.cells #[.int .i64 a.k,.int .i64 a.v,.slice A a.args.length c,.slice B a.fs.length d,.int .i64 a.rest] 27) (.cells #[.int .i64 b.k,.int .i64 b.v,.slice A' b.args.length c',.slice B' b.fs.length d',.int .i64 b.rest] 27) (.cells #[.int .i64 x.k,.int .i64 x.v,.slice A2 x.args.length c2,.slice B2 x.fs.length d2,.int .i64 x.rest] 27) (.cells #[.int .i64 y.k,.int .i64 y.v,.slice A3 y.args.length c3,.slice B3 y.fs.length d3,.int .i64 y.rest] 27)from hSw).2.1;have hl:=Box4.lt (show Box4 w' W.heap.size (.cells #[.int .i64 a.k,.int .i64 a.v,.slice A a.args.length c,.slice B a.fs.length d,.int .i64 a.rest] 27) (.cells #[.int .i64 b.k,.int .i64 b.v,.slice A' b.args.length c',.slice B' b.fs.length d',.int .i64 b.rest] 27) (.cells #[.int .i64 x.k,.int .i64 x.v,.slice A2 x.args.length c2,.slice B2 x.fs.length d2,.int .i64 x.rest] 27) (.cells #[.int .i64 y.k,.int .i64 y.v,.slice A3 y.args.length c3,.slice B3 y.fs.length d3,.int .i64 y.rest] 27)from hSw);go_simp;(try with_reducible rfl)
  try simp only[Act.put,List.setIfInBounds_toArray,List.set_cons_zero,List.set_cons_succ]
  refine tk1 4 (oi:={ dst:=some 49,op:=_,type:=_,pos:=_,after:=_,guard:=_ }) (v:=?_) rfl (by rfl) ?_ ?_ (hS:=hHeld)
  rotate_left
  ·intro w' hSw;have hc:=cells5 (show Box4 w' W.heap.size (.cells #[.int .i64 a.k,.int .i64 a.v,.slice A a.args.length c,.slice B a.fs.length d,.int .i64 a.rest] 27) (.cells #[.int .i64 b.k,.int .i64 b.v,.slice A' b.args.length c',.slice B' b.fs.length d',.int .i64 b.rest] 27) (.cells #[.int .i64 x.k,.int .i64 x.v,.slice A2 x.args.length c2,.slice B2 x.fs.length d2,.int .i64 x.rest] 27) (.cells #[.int .i64 y.k,.int .i64 y.v,.slice A3 y.args.length c3,.slice B3 y.fs.length d3,.int .i64 y.rest] 27)from hSw).2.2.1;have hl:=Box4.lt (show Box4 w' W.heap.size (.cells #[.int .i64 a.k,.int .i64 a.v,.slice A a.args.length c,.slice B a.fs.length d,.int .i64 a.rest] 27) (.cells #[.int .i64 b.k,.int .i64 b.v,.slice A' b.args.length c',.slice B' b.fs.length d',.int .i64 b.rest] 27) (.cells #[.int .i64 x.k,.int .i64 x.v,.slice A2 x.args.length c2,.slice B2 x.fs.length d2,.int .i64 x.rest] 27) (.cells #[.int .i64 y.k,.int .i64 y.v,.slice A3 y.args.length c3,.slice B3 y.fs.length d3,.int .i64 y.rest] 27)from hSw);go_simp;(try with_reducible rfl)
  try simp only[Act.put,List.setIfInBounds_toArray,List.set_cons_zero,List.set_cons_succ]
  refine tk1 5 (oi:={ dst:=some 50,op:=_,type:=_,pos:=_,after:=_,guard:=_ }) (v:=?_) rfl (by rfl) ?_ ?_ (hS:=hHeld)
  rotate_left
  ·intro w' hSw;have hc:=cells5 (show Box4 w' W.heap.size (.cells #[.int .i64 a.k,.int .i64 a.v,.slice A a.args.length c,.slice B a.fs.length d,.int .i64 a.rest] 27) (.cells #[.int .i64 b.k,.int .i64 b.v,.slice A' b.args.length c',.slice B' b.fs.length d',.int .i64 b.rest] 27) (.cells #[.int .i64 x.k,.int .i64 x.v,.slice A2 x.args.length c2,.slice B2 x.fs.length d2,.int .i64 x.rest] 27) (.cells #[.int .i64 y.k,.int .i64 y.v,.slice A3 y.args.length c3,.slice B3 y.fs.length d3,.int .i64 y.rest] 27)from hSw).2.2.2;have hl:=Box4.lt (show Box4 w' W.heap.size (.cells #[.int .i64 a.k,.int .i64 a.v,.slice A a.args.length c,.slice B a.fs.length d,.int .i64 a.rest] 27) (.cells #[.int .i64 b.k,.int .i64 b.v,.slice A' b.args.length c',.slice B' b.fs.length d',.int .i64 b.rest] 27) (.cells #[.int .i64 x.k,.int .i64 x.v,.slice A2 x.args.length c2,.slice B2 x.fs.length d2,.int .i64 x.rest] 27) (.cells #[.int .i64 y.k,.int .i64 y.v,.slice A3 y.args.length c3,.slice B3 y.fs.length d3,.int .i64 y.rest] 27)from hSw);go_simp;(try with_reducible rfl)
  try simp only[Act.put,List.setIfInBounds_toArray,List.set_cons_zero,List.set_cons_succ]
  refine tkc 3 (oi:={ dst:=some 48,op:=_,type:=_,pos:=_,after:=_,guard:=_ }) rfl (fun K hK=>?_)
  go_simp
  refine(lfun2 (t:=ab) EAB.out (Ta2.out.keep (sh0 (HF4.out.trans g0))) (Tb2.out.keep (sh0 (HF4.out.trans g0)))).mono ?_
  rintro e z1 ⟨X1,rfl,ht1,f9⟩
  have g1:=g0.trans f9
  go_simp
  refine hK.out _ _ (Box4.fr0 hHeld f9) (fun hHeld=>?_)
  clear hK K
  have HT1:=Lib.hid ht1
  clear ht1 f9
  try simp only[Act.put,List.setIfInBounds_toArray,List.set_cons_zero,List.set_cons_succ]
  refine tkc 6 (oi:={ dst:=some 51,op:=_,type:=_,pos:=_,after:=_,guard:=_ }) rfl (fun K hK=>?_)
  go_simp
  refine(lfun2 (t:=xy) EXY.out (Tx2.out.keep (sh0 (HF4.out.trans g1))) (Ty2.out.keep (sh0 (HF4.out.trans g1)))).mono ?_
  rintro e z2 ⟨X2,rfl,ht2,f9⟩
  have g2:=g1.trans f9
  go_simp
  refine hK.out _ _ (Box4.fr0 hHeld f9) (fun hHeld=>?_)
  clear hK K
  have HT2:=Lib.hid ht2
  replace HT1:=Lib.hid (HT1.out.keep (sh0 f9))
  clear ht2 f9
  try simp only[Act.put,List.setIfInBounds_toArray,List.set_cons_zero,List.set_cons_succ]
  refine tkc 7 (oi:={ dst:=some 52,op:=_,type:=_,pos:=_,after:=_,guard:=_ }) rfl (fun K hK=>?_)
  go_simp
  refine(lfun2 (t:=al) EAL.out HT1.out HT2.out).mono ?_
  rintro e z3 ⟨X3,rfl,ht3,f9⟩
  have g3:=g2.trans f9
  go_simp
  refine hK.out _ _ (Box4.fr0 hHeld f9) (fun hHeld=>?_)
  clear hK K
  have HT3:=Lib.hid ht3
  clear ht3 f9 HT1 HT2
  try simp only[Act.put,List.setIfInBounds_toArray,List.set_cons_zero,List.set_cons_succ]
  refine tkc 8 (oi:={ dst:=some 53,op:=_,type:=_,pos:=_,after:=_,guard:=_ }) rfl (fun K hK=>?_)
  go_simp
  refine(sv_Apply (t:=al) (U4.out.fr g3) WAL.out HT3.out).mono ?_
  rw[HALS.out]
  rintro e w5 ⟨A9,c9,B9,d9,rfl,ht9,hU5,f5⟩
  go_simp
  refine hK.out _ _ (Box4.fr hHeld f5 (by simp;omega)) (fun hHeld=>?_)
  clear hK K
  refine wpAnyH_done (by kernel_rfl) ?_ _
  have J5:=Lib.hid (show Box4 w5 W.heap.size (.cells #[.int .i64 a.k,.int .i64 a.v,.slice A a.args.length c,.slice B a.fs.length d,.int .i64 a.rest] 27) (.cells #[.int .i64 b.k,.int .i64 b.v,.slice A' b.args.length c',.slice B' b.fs.length d',.int .i64 b.rest] 27) (.cells #[.int .i64 x.k,.int .i64 x.v,.slice A2 x.args.length c2,.slice B2 x.fs.length d2,.int .i64 x.rest] 27) (.cells #[.int .i64 y.k,.int .i64 y.v,.slice A3 y.args.length c3,.slice B3 y.fs.length d3,.int .i64 y.rest] 27)from hHeld)
  have U5:=Lib.hid hU5
  have HF5:=Lib.hid ((HF4.out.trans g3).step f5 (fun x hx => .inr (by simp at hx;omega)))
  have S5:=Lib.hid ((S4.out.fr g3).beside f5 (sol_notQ (U4.out.fr g3)) (fun x hx=>by simp[solL] at hx;simp;omega))
  have hs5:=f5.size
  have hs34:=g3.size
  clear f5 g0 g1 g2 g3 hU5 ht9 hHeld HT3 U4 S4 J4
  go_wp2_with fail
  refine wp_region_held_drew (S:=fun w'=>Box4 w' W.heap.size (.cells #[.int .i64 a.k,.int .i64 a.v,.slice A a.args.length c,.slice B a.fs.length d,.int .i64 a.rest] 27) (.cells #[.int .i64 b.k,.int .i64 b.v,.slice A' b.args.length c',.slice B' b.fs.length d',.int .i64 b.rest] 27) (.cells #[.int .i64 x.k,.int .i64 x.v,.slice A2 x.args.length c2,.slice B2 x.fs.length d2,.int .i64 x.rest] 27) (.cells #[.int .i64 y.k,.int .i64 y.v,.slice A3 y.args.length c3,.slice B3 y.fs.length d3,.int .i64 y.rest] 27)) (by kernel_rfl) ?_ (fun hHeld=>?_)
  ·exact J5.out.fr0 (Fr.refl [] w5).drew
  have g0:Fr [] w5 w5.drew:=(Fr.refl [] w5).drew
  refine tk1 0 (oi:={ dst:=some 54,op:=_,type:=_,pos:=_,after:=_,guard:=_ }) (v:=?_) rfl (by rfl) ?_ ?_ (hS:=hHeld)
  rotate_left
  ·intro w' hSw;go_simp;(try with_reducible rfl)
  try simp only[Act.put,List.setIfInBounds_toArray,List.set_cons_zero,List.set_cons_succ]
  refine tk1 1 (oi:={ dst:=some 55,op:=_,type:=_,pos:=_,after:=_,guard:=_ }) (v:=?_) rfl (by rfl) ?_ ?_ (hS:=hHeld)
  rotate_left
  ·intro w' hSw;have hc:=cells5 (show Box4 w' W.heap.size (.cells #[.int .i64 a.k,.int .i64 a.v,.slice A a.args.length c,.slice B a.fs.length d,.int .i64 a.rest] 27) (.cells #[.int .i64 b.k,.int .i64 b.v,.slice A' b.args.length c',.slice B' b.fs.length d',.int .i64 b.rest] 27) (.cells #[.int .i64 x.k,.int .i64 x.v,.slice A2 x.args.length c2,.slice B2 x.fs.length d2,.int .i64 x.rest] 27) (.cells #[.int .i64 y.k,.int .i64 y.v,.slice A3 y.args.length c3,.slice B3 y.fs.length d3,.int .i64 y.rest] 27)from hSw).1;have hl:=Box4.lt (show Box4 w' W.heap.size (.cells #[.int .i64 a.k,.int .i64 a.v,.slice A a.args.length c,.slice B a.fs.length d,.int .i64 a.rest] 27) (.cells #[.int .i64 b.k,.int .i64 b.v,.slice A' b.args.length c',.slice B' b.fs.length d',.int .i64 b.rest] 27) (.cells #[.int .i64 x.k,.int .i64 x.v,.slice A2 x.args.length c2,.slice B2 x.fs.length d2,.int .i64 x.rest] 27) (.cells #[.int .i64 y.k,.int .i64 y.v,.slice A3 y.args.length c3,.slice B3 y.fs.length d3,.int .i64 y.rest] 27)from hSw);go_simp;(try with_reducible rfl)
  try simp only[Act.put,List.setIfInBounds_toArray,List.set_cons_zero,List.set_cons_succ]
  refine tk1 2 (oi:={ dst:=some 56,op:=_,type:=_,pos:=_,after:=_,guard:=_ }) (v:=?_) rfl (by rfl) ?_ ?_ (hS:=hHeld)
  rotate_left
  ·intro w' hSw;have hc:=cells5 (show Box4 w' W.heap.size (.cells #[.int .i64 a.k,.int .i64 a.v,.slice A a.args.length c,.slice B a.fs.length d,.int .i64 a.rest] 27) (.cells #[.int .i64 b.k,.int .i64 b.v,.slice A' b.args.length c',.slice B' b.fs.length d',.int .i64 b.rest] 27) (.cells #[.int .i64 x.k,.int .i64 x.v,.slice A2 x.args.length c2,.slice B2 x.fs.length d2,.int .i64 x.rest] 27) (.cells #[.int .i64 y.k,.int .i64 y.v,.slice A3 y.args.length c3,.slice B3 y.fs.length d3,.int .i64 y.rest] 27)from hSw).2.1;have hl:=Box4.lt (show Box4 w' W.heap.size (.cells #[.int .i64 a.k,.int .i64 a.v,.slice A a.args.length c,.slice B a.fs.length d,.int .i64 a.rest] 27) (.cells #[.int .i64 b.k,.int .i64 b.v,.slice A' b.args.length c',.slice B' b.fs.length d',.int .i64 b.rest] 27) (.cells #[.int .i64 x.k,.int .i64 x.v,.slice A2 x.args.length c2,.slice B2 x.fs.length d2,.int .i64 x.rest] 27) (.cells #[.int .i64 y.k,.int .i64 y.v,.slice A3 y.args.length c3,.slice B3 y.fs.length d3,.int .i64 y.rest] 27)from hSw);go_simp;(try with_reducible rfl)
  try simp only[Act.put,List.setIfInBounds_toArray,List.set_cons_zero,List.set_cons_succ]
  refine tk1 4 (oi:={ dst:=some 58,op:=_,type:=_,pos:=_,after:=_,guard:=_ }) (v:=?_) rfl (by rfl) ?_ ?_ (hS:=hHeld)
  rotate_left
  ·intro w' hSw;have hc:=cells5 (show Box4 w' W.heap.size (.cells #[.int .i64 a.k,.int .i64 a.v,.slice A a.args.length c,.slice B a.fs.length d,.int .i64 a.rest] 27) (.cells #[.int .i64 b.k,.int .i64 b.v,.slice A' b.args.length c',.slice B' b.fs.length d',.int .i64 b.rest] 27) (.cells #[.int .i64 x.k,.int .i64 x.v,.slice A2 x.args.length c2,.slice B2 x.fs.length d2,.int .i64 x.rest] 27) (.cells #[.int .i64 y.k,.int .i64 y.v,.slice A3 y.args.length c3,.slice B3 y.fs.length d3,.int .i64 y.rest] 27)from hSw).2.2.1;have hl:=Box4.lt (show Box4 w' W.heap.size (.cells #[.int .i64 a.k,.int .i64 a.v,.slice A a.args.length c,.slice B a.fs.length d,.int .i64 a.rest] 27) (.cells #[.int .i64 b.k,.int .i64 b.v,.slice A' b.args.length c',.slice B' b.fs.length d',.int .i64 b.rest] 27) (.cells #[.int .i64 x.k,.int .i64 x.v,.slice A2 x.args.length c2,.slice B2 x.fs.length d2,.int .i64 x.rest] 27) (.cells #[.int .i64 y.k,.int .i64 y.v,.slice A3 y.args.length c3,.slice B3 y.fs.length d3,.int .i64 y.rest] 27)from hSw);go_simp;(try with_reducible rfl)
  try simp only[Act.put,List.setIfInBounds_toArray,List.set_cons_zero,List.set_cons_succ]
  refine tk1 5 (oi:={ dst:=some 59,op:=_,type:=_,pos:=_,after:=_,guard:=_ }) (v:=?_) rfl (by rfl) ?_ ?_ (hS:=hHeld)
  rotate_left
  ·intro w' hSw;have hc:=cells5 (show Box4 w' W.heap.size (.cells #[.int .i64 a.k,.int .i64 a.v,.slice A a.args.length c,.slice B a.fs.length d,.int .i64 a.rest] 27) (.cells #[.int .i64 b.k,.int .i64 b.v,.slice A' b.args.length c',.slice B' b.fs.length d',.int .i64 b.rest] 27) (.cells #[.int .i64 x.k,.int .i64 x.v,.slice A2 x.args.length c2,.slice B2 x.fs.length d2,.int .i64 x.rest] 27) (.cells #[.int .i64 y.k,.int .i64 y.v,.slice A3 y.args.length c3,.slice B3 y.fs.length d3,.int .i64 y.rest] 27)from hSw).2.2.2;have hl:=Box4.lt (show Box4 w' W.heap.size (.cells #[.int .i64 a.k,.int .i64 a.v,.slice A a.args.length c,.slice B a.fs.length d,.int .i64 a.rest] 27) (.cells #[.int .i64 b.k,.int .i64 b.v,.slice A' b.args.length c',.slice B' b.fs.length d',.int .i64 b.rest] 27) (.cells #[.int .i64 x.k,.int .i64 x.v,.slice A2 x.args.length c2,.slice B2 x.fs.length d2,.int .i64 x.rest] 27) (.cells #[.int .i64 y.k,.int .i64 y.v,.slice A3 y.args.length c3,.slice B3 y.fs.length d3,.int .i64 y.rest] 27)from hSw);go_simp;(try with_reducible rfl)
  try simp only[Act.put,List.setIfInBounds_toArray,List.set_cons_zero,List.set_cons_succ]
  refine tkc 3 (oi:={ dst:=some 57,op:=_,type:=_,pos:=_,after:=_,guard:=_ }) rfl (fun K hK=>?_)
  go_simp
  refine(lfun2 (t:=ab) EAB.out (Ta2.out.keep (sh0 (HF5.out.trans g0))) (Tb2.out.keep (sh0 (HF5.out.trans g0)))).mono ?_
  rintro e z1 ⟨X1,rfl,ht1,f9⟩
  have g1:=g0.trans f9
  go_simp
  refine hK.out _ _ (Box4.fr0 hHeld f9) (fun hHeld=>?_)
  clear hK K
  have HT1:=Lib.hid ht1
  clear ht1 f9
  try simp only[Act.put,List.setIfInBounds_toArray,List.set_cons_zero,List.set_cons_succ]
  refine tkc 6 (oi:={ dst:=some 60,op:=_,type:=_,pos:=_,after:=_,guard:=_ }) rfl (fun K hK=>?_)
  go_simp
  refine(lfun2 (t:=xy) EXY.out (Tx2.out.keep (sh0 (HF5.out.trans g1))) (Ty2.out.keep (sh0 (HF5.out.trans g1)))).mono ?_
  rintro e z2 ⟨X2,rfl,ht2,f9⟩
  have g2:=g1.trans f9
  go_simp
  refine hK.out _ _ (Box4.fr0 hHeld f9) (fun hHeld=>?_)
  clear hK K
  have HT2:=Lib.hid ht2
  replace HT1:=Lib.hid (HT1.out.keep (sh0 f9))
  clear ht2 f9
  try simp only[Act.put,List.setIfInBounds_toArray,List.set_cons_zero,List.set_cons_succ]
  refine tkc 7 (oi:={ dst:=some 61,op:=_,type:=_,pos:=_,after:=_,guard:=_ }) rfl (fun K hK=>?_)
  go_simp
  obtain⟨n,r,hn,hc⟩:=sv_Unify (S5.out.fr g2) HOK.out (by have:=HBD.out;omega) HT1.out HT2.out
  refine hc.mono ?_
  rintro e w6 ⟨rfl,h6,hx⟩
  have h6q:Fr [Q] z2 w6:=h6
  go_simp
  refine hK.out _ _ (Box4.fr hHeld h6q (by simp;omega)) (fun hHeld=>?_)
  clear hK K
  try simp only[Act.put,List.setIfInBounds_toArray,List.set_cons_zero,List.set_cons_succ]
  refine tk1 8 (oi:={ dst:=some 11,op:=_,type:=_,pos:=_,after:=_,guard:=_ }) (v:=?_) rfl (by rfl) ?_ ?_ (hS:=hHeld)
  rotate_left
  ·intro w' hSw;go_simp;(try with_reducible rfl)
  try simp only[Act.put,List.setIfInBounds_toArray,List.set_cons_zero,List.set_cons_succ]
  refine wpAnyH_done (by kernel_rfl) ?_ _
  have J6:=Lib.hid (show Box4 w6 W.heap.size (.cells #[.int .i64 a.k,.int .i64 a.v,.slice A a.args.length c,.slice B a.fs.length d,.int .i64 a.rest] 27) (.cells #[.int .i64 b.k,.int .i64 b.v,.slice A' b.args.length c',.slice B' b.fs.length d',.int .i64 b.rest] 27) (.cells #[.int .i64 x.k,.int .i64 x.v,.slice A2 x.args.length c2,.slice B2 x.fs.length d2,.int .i64 x.rest] 27) (.cells #[.int .i64 y.k,.int .i64 y.v,.slice A3 y.args.length c3,.slice B3 y.fs.length d3,.int .i64 y.rest] 27)from hHeld)
  have HF6:=Lib.hid ((HF5.out.trans g2).step h6q (fun x hx => .inr (by simp at hx;omega)))
  have U6:=Lib.hid ((U5.out.fr g2).beside h6q (sol_notQ (S5.out.fr g2)) (fun x hx=>by simp[solL] at hx;simp;omega))
  have HN:=Lib.hid hn
  have HX:=Lib.hid hx
  have hs6:=h6q.size
  have hs56:=g2.size
  have hz2:Q2<z2.heap.size:=by omega
  clear h6 h6q g0 g1 hn hc hx hHeld HT1 HT2 U5 S5 J5
  have hok0:AOk G ⟨.one,m0,ab,xy⟩:=by rw[HM0.out];exact HOK.out
  have HOK0:=Lib.hid hok0
  have hbd0:m0≤1099511627776:=by rw[HM0.out];exact HBD.out
  have e1:seenT x (seenT a m0)=m0:=by
   have h:=HPS.out m0 (Int.le_refl _)
   rw[h.1,h.2.2.1]
  have hu1:AOk G ⟨.one,seenT x (seenT a m0),a,x⟩:=by rw[e1];exact aok_ab hok0 WA.out WX.out
  have HU1:=Lib.hid hu1
  have HE1:=Lib.hid e1
  clear hok0 hu1 e1
  obtain⟨⟨l0,l1,l2,l3,l4⟩,_⟩:=cells5 J6.out.1
  obtain⟨⟨m0',m1,m2,m3,m4⟩,_⟩:=cells5 J6.out.2.2.1
  have hl6:=J6.out.lt
  go_wp2_with fail
  obtain⟨n1,q1,hn1,hc1⟩:=sv_Unify U6.out HU1.out (by rw[HE1.out];omega) (Ta2.out.keep (sh0 HF6.out)) (Tx2.out.keep (sh0 HF6.out))
  refine hc1.mono ?_
  rintro e w7 ⟨rfl,h7,hx7⟩
  have h7q:Fr [Q2] w6 w7:=h7
  have J7:=Lib.hid (J6.out.fr h7q (by simp;omega))
  have HF7:=Lib.hid (HF6.out.step h7q (fun x hx => .inr (by simp at hx;omega)))
  have HN1:=Lib.hid (show Unify n1 ⟨.one,m0,.zero,.zero⟩ a x m0=some q1 by rw[← HE1.out] at hn1 ⊢;simpa only[HE1.out] using hn1)
  have HX7:=Lib.hid hx7
  have H7:=Lib.hid h7q
  have hs7:=h7q.size
  clear l0 l1 l2 l3 l4 m0' m1 m2 m3 m4 hn1 hc1 hx7 h7 h7q hl6
  have hpt:=fun(n2:Nat) (q2:Int×Ab) h2 h3=>unify_parts (A:=⟨.one,0,.zero,.zero⟩) (B:=⟨.one,m0,.zero,.zero⟩) (n:=n) (n1:=n1) (n2:=n2) (r:=r) (q1:=q1) (q2:=q2) rfl rfl (by rw[← EAB.out,← EXY.out];exact HOK0.out) (by rw[← EAB.out,← EXY.out,HM0.out];exact HN.out) HN1.out h2 h3
  have HPT:=Lib.hid hpt
  clear hpt
  obtain⟨e0,A6⟩:=r
  obtain⟨f1,A7⟩:=q1
  by_cases hf1:f1=0
  rotate_left
  ·have c1:(f1==0)=false:=by simp[hf1]
   have hp:=HPT.out 0 (f1,A7) (fun h=>absurd h hf1) (fun _=>rfl)
   dsimp only at hp
   by_cases e3:e0=3
   ·have dd3:(e0==3)=true:=by simp[e3]
    clear e3
    go_wp2_with fail
    go_ret
    exact⟨by first|rfl|simp,HF7.out⟩
   have dd3:(e0==3)=false:=by simp[e3]
   by_cases f3:f1=3
   ·have dd4:(f1==3)=true:=by simp[f3]
    clear e3 f3
    go_wp2_with fail
    go_ret
    exact⟨by first|rfl|simp,HF7.out⟩
   have dd4:(f1==3)=false:=by simp[f3]
   have hz:¬ e0=0:=by omega
   obtain rfl:e0=f1:=by omega
   clear hp hf1
   have dd5:(e0==e0)=true:=by simp
   have dd6:(e0 != 0)=true:=by simp[hz]
   clear e3 f3 hz
   go_wp2_with fail
   go_quiet (fail)
   all_goals
    go_wp2_with fail
    go_ret
    exact⟨by first|rfl|simp,HF7.out.drewN _⟩
  subst hf1
  obtain⟨G7,K0,K1,K2,R7,hV,hadv,hL,hmc⟩:=HX7.out rfl
  have hmo:m0≤A7.most:=by have:=hadv.mo;rw[HE1.out] at this;exact this
  obtain⟨_,s1,_,s2⟩:=HPS.out A7.most hmo
  have hm41:A7.most≤2199023255552:=by
   have h2:=cnt_le (⟨.one,seenT x (seenT a m0),a,x⟩:Ab)
   have h4:=HOK0.out.mo
   dsimp only at hmc h2 h4
   rw[HE1.out] at h2 hmc
   omega
  have e2:seenT y (seenT b A7.most)=A7.most:=by rw[s1,s2]
  have wb7:=wfT_le hadv.le WB.out
  have wy7:=wfT_le hadv.le WY.out
  have hu2:AOk G7 ⟨A7.s,seenT y (seenT b A7.most),b,y⟩:=by rw[e2];exact aok_ab hV.ok wb7 wy7
  have HE2:=Lib.hid e2
  have HU2:=Lib.hid hu2
  have hL7:∀ z ∈ solL Q2 K0 K1 K2,z=Q2∨w6.heap.size≤z:=fun z hz=>by
   rcases hL z hz with c|c
   ·simp[solL] at c;exact .inl c
   ·exact .inr c
  have HL7:=Lib.hid hL7
  have HV:=Lib.hid hV
  have HLE:=Lib.hid hadv.le
  clear hadv hL hmc hmo s1 s2 e2 wb7 wy7 hu2 hL7 hV HX7
  obtain⟨⟨l0,l1,l2,l3,l4⟩,_⟩:=cells5 J7.out.2.1
  obtain⟨⟨m0',m1,m2,m3,m4⟩,_⟩:=cells5 J7.out.2.2.2
  have hl7:=J7.out.lt
  go_wp2_with fail
  obtain⟨n2,q2,hn2,hc2⟩:=sv_Unify HV.out.sw HU2.out (by rw[HE2.out];exact hm41) (Tb2.out.keep (sh0 HF7.out)) (Ty2.out.keep (sh0 HF7.out))
  refine hc2.mono ?_
  rintro e w8 ⟨rfl,h8,hx8⟩
  have J8:=Lib.hid (J7.out.fr h8 (fun z hz=>by rcases HL7.out z hz with c|c <;> omega))
  have HF8:=Lib.hid (HF7.out.step h8 (fun z hz => .inr (by rcases HL7.out z hz with c|c <;> omega)))
  rw[HE2.out] at hn2
  have hp:=HPT.out n2 q2 (fun _=>hn2) (fun h=>absurd rfl h)
  have HX8:=Lib.hid hx8
  have H8:=Lib.hid h8
  have hs8:=h8.size
  obtain⟨f2,A8⟩:=q2
  dsimp only at hp
  have HPP:=Lib.hid hp
  clear l0 l1 l2 l3 l4 m0' m1 m2 m3 m4 hn2 hc2 hx8 h8 hl7 hm41 hp
  by_cases e3:e0=3
  ·have dd3:(e0==3)=true:=by simp[e3]
   clear e3
   go_wp2_with fail
   go_ret
   exact⟨by first|rfl|simp,HF8.out⟩
  have dd3:(e0==3)=false:=by simp[e3]
  by_cases f3:f2=3
  ·have dd4:(f2==3)=true:=by simp[f3]
   clear e3 f3
   go_wp2_with fail
   go_ret
   exact⟨by first|rfl|simp,HF8.out⟩
  have dd4:(f2==3)=false:=by simp[f3]
  have hp:=HPP.out
  have hsE:A6.s=A8.s:=by
   rcases hp with h|h|h
   ·exact absurd h e3
   ·exact absurd h f3
   ·exact h.2
  obtain rfl:e0=f2:=by
   rcases hp with h|h|h
   ·exact absurd h e3
   ·exact absurd h f3
   ·exact h.1
  clear hp HPP
  by_cases hz:e0=0
  rotate_left
  ·have dd5:(e0==e0)=true:=by simp
   have dd6:(e0 != 0)=true:=by simp[hz]
   clear e3 f3 hz
   go_wp2_with fail
   go_quiet (fail)
   all_goals
    go_wp2_with fail
    go_ret
    exact⟨by first|rfl|simp,HF8.out.drewN _⟩
  subst hz
  clear e3 f3
  obtain⟨G6,M0,M1,M2,R6,hU,hadv,hL,_⟩:=HX.out rfl
  obtain⟨G8,N0,N1,N2,R8,hV8,hadv8,hL8,_⟩:=HX8.out rfl
  have hsz:=(unify_small (A:=⟨.one,0,.zero,.zero⟩) HOK.out HN.out).1
  have hlt6:∀ z ∈ solL Q M0 M1 M2,z<w6.heap.size:=fun z hz=>(hU.sw.at_.not_ok z hz).2
  have hq6:∀ z ∈ solL Q M0 M1 M2,z=Q∨z2.heap.size≤z:=fun z hz=>by
   rcases hL z hz with c|c
   ·simp[solL] at c;exact .inl c
   ·exact .inr c
  have S7:=hU.sw.beside H7.out (sol_notQ U6.out) (fun z hz=>by have:=hq6 z hz;simp;omega)
  have S8:=Lib.hid (S7.beside H8.out (sol_not HV.out.sw) (fun z hz h=>by have:=hlt6 z hz;have:=hq6 z hz;rcases HL7.out z h with c|c <;> omega))
  have V8:=Lib.hid hV8.sw
  have hap:∀ z ∈ solL Q2 N0 N1 N2,z ∉ [Q]:=fun z hz=>by
   simp
   rcases hL8 z hz with c|c
   ·rcases HL7.out z c with c|c <;> omega
   ·omega
  have HAP:=Lib.hid hap
  have W6:=Lib.hid (wfT_le hadv.le WAB.out)
  have W8:=Lib.hid (wfT_le hadv8.le (wfT_le HLE.out WAB.out))
  obtain⟨X,hXe⟩:∃ X,X=ap A6.s ab:=⟨_,rfl⟩
  obtain⟨Z,hZ⟩:∃ Z,Z=canon X:=⟨_,rfl⟩
  have wX:WfT G6 X:=by rw[hXe];exact ap_wf hU.ok.sw W6.out
  have wX8:WfT G8 X:=by rw[hXe,hsE];exact ap_wf hV8.ok.sw W8.out
  rw[← hXe] at hsz
  have HXE:=Lib.hid hXe
  have HXE8:=Lib.hid (show X=ap A8.s ab by rw[← hsE];exact hXe)
  have HZ:=Lib.hid hZ
  have WX6:=Lib.hid wX
  have WX8:=Lib.hid wX8
  replace hsz:szT X≤5000:=Nat.le_trans hsz (by decide)
  clear hU hadv hL hV8 hadv8 hL8 hXe hZ wX wX8 HX HX8 HN HN1 hlt6 hq6 hap S7 hsE HPT
  have cS:=fun(Y:World) (ok1 ok2:Nat→Prop) (A2 B2 A4 B4:Option Addr) (c2 d2 c4 d4:Nat) (lz:LimT Z) (h1:TyAt Y ok1 (· ∈ labT ab++labT xy) Z [.int .i64 Z.k,.int .i64 Z.v,.slice A2 Z.args.length c2,.slice B2 Z.fs.length d2,.int .i64 Z.rest]) (h2:TyAt Y ok2 (· ∈ labT ab++labT xy) Z [.int .i64 Z.k,.int .i64 Z.v,.slice A4 Z.args.length c4,.slice B4 Z.fs.length d4,.int .i64 Z.rest])=>Lib.hid (rsame_all _ Y Y _ _ _ _ Z A2 B2 A4 B4 c2 d2 c4 d4 (Nat.lt_succ_self _) (Fr.refl [] Y) lz h1 h2)
  go_wp2_with fail
  refine wp_region_held_drew (S:=fun w'=>Box4 w' W.heap.size (.cells #[.int .i64 a.k,.int .i64 a.v,.slice A a.args.length c,.slice B a.fs.length d,.int .i64 a.rest] 27) (.cells #[.int .i64 b.k,.int .i64 b.v,.slice A' b.args.length c',.slice B' b.fs.length d',.int .i64 b.rest] 27) (.cells #[.int .i64 x.k,.int .i64 x.v,.slice A2 x.args.length c2,.slice B2 x.fs.length d2,.int .i64 x.rest] 27) (.cells #[.int .i64 y.k,.int .i64 y.v,.slice A3 y.args.length c3,.slice B3 y.fs.length d3,.int .i64 y.rest] 27)) (by kernel_rfl) ?_ (fun hHeld=>?_)
  ·exact J8.out.fr0 (Fr.refl [] w8).drew
  have g0:Fr [] w8 w8.drew:=(Fr.refl [] w8).drew
  refine tk1 0 (oi:={ dst:=some 78,op:=_,type:=_,pos:=_,after:=_,guard:=_ }) (v:=?_) rfl (by rfl) ?_ ?_ (hS:=hHeld)
  rotate_left
  ·intro w' hSw;go_simp;(try with_reducible rfl)
  try simp only[Act.put,List.setIfInBounds_toArray,List.set_cons_zero,List.set_cons_succ]
  refine tk1 1 (oi:={ dst:=some 79,op:=_,type:=_,pos:=_,after:=_,guard:=_ }) (v:=?_) rfl (by rfl) ?_ ?_ (hS:=hHeld)
  rotate_left
  ·intro w' hSw;go_simp;(try with_reducible rfl)
  try simp only[Act.put,List.setIfInBounds_toArray,List.set_cons_zero,List.set_cons_succ]
  refine tk1 2 (oi:={ dst:=some 80,op:=_,type:=_,pos:=_,after:=_,guard:=_ }) (v:=?_) rfl (by rfl) ?_ ?_ (hS:=hHeld)
  rotate_left
  ·intro w' hSw;go_simp;(try with_reducible rfl)
  try simp only[Act.put,List.setIfInBounds_toArray,List.set_cons_zero,List.set_cons_succ]
  refine tk1 3 (oi:={ dst:=some 81,op:=_,type:=_,pos:=_,after:=_,guard:=_ }) (v:=?_) rfl (by rfl) ?_ ?_ (hS:=hHeld)
  rotate_left
  ·intro w' hSw;go_simp;(try with_reducible rfl)
  try simp only[Act.put,List.setIfInBounds_toArray,List.set_cons_zero,List.set_cons_succ]
  refine tk1 4 (oi:={ dst:=some 82,op:=_,type:=_,pos:=_,after:=_,guard:=_ }) (v:=?_) rfl (by rfl) ?_ ?_ (hS:=hHeld)
  rotate_left
  ·intro w' hSw;go_simp;(try with_reducible rfl)
  try simp only[Act.put,List.setIfInBounds_toArray,List.set_cons_zero,List.set_cons_succ]
  refine tk1 5 (oi:={ dst:=some 83,op:=_,type:=_,pos:=_,after:=_,guard:=_ }) (v:=?_) rfl (by rfl) ?_ ?_ (hS:=hHeld)
  rotate_left
  ·intro w' hSw;go_simp;(try with_reducible rfl)
  try simp only[Act.put,List.setIfInBounds_toArray,List.set_cons_zero,List.set_cons_succ]
  refine tk1 6 (oi:={ dst:=some 84,op:=_,type:=_,pos:=_,after:=_,guard:=_ }) (v:=?_) rfl (by rfl) ?_ ?_ (hS:=hHeld)
  rotate_left
  ·intro w' hSw;go_simp;(try with_reducible rfl)
  try simp only[Act.put,List.setIfInBounds_toArray,List.set_cons_zero,List.set_cons_succ]
  refine tk1 7 (oi:={ dst:=some 85,op:=_,type:=_,pos:=_,after:=_,guard:=_ }) (v:=?_) rfl (by rfl) ?_ ?_ (hS:=hHeld)
  rotate_left
  ·intro w' hSw;go_simp;(try with_reducible rfl)
  try simp only[Act.put,List.setIfInBounds_toArray,List.set_cons_zero,List.set_cons_succ]
  refine tk1 8 (oi:={ dst:=some 86,op:=_,type:=_,pos:=_,after:=_,guard:=_ }) (v:=?_) rfl (by rfl) ?_ ?_ (hS:=hHeld)
  rotate_left
  ·intro w' hSw;have hc:=cells5 (show Box4 w' W.heap.size (.cells #[.int .i64 a.k,.int .i64 a.v,.slice A a.args.length c,.slice B a.fs.length d,.int .i64 a.rest] 27) (.cells #[.int .i64 b.k,.int .i64 b.v,.slice A' b.args.length c',.slice B' b.fs.length d',.int .i64 b.rest] 27) (.cells #[.int .i64 x.k,.int .i64 x.v,.slice A2 x.args.length c2,.slice B2 x.fs.length d2,.int .i64 x.rest] 27) (.cells #[.int .i64 y.k,.int .i64 y.v,.slice A3 y.args.length c3,.slice B3 y.fs.length d3,.int .i64 y.rest] 27)from hSw).1;have hl:=Box4.lt (show Box4 w' W.heap.size (.cells #[.int .i64 a.k,.int .i64 a.v,.slice A a.args.length c,.slice B a.fs.length d,.int .i64 a.rest] 27) (.cells #[.int .i64 b.k,.int .i64 b.v,.slice A' b.args.length c',.slice B' b.fs.length d',.int .i64 b.rest] 27) (.cells #[.int .i64 x.k,.int .i64 x.v,.slice A2 x.args.length c2,.slice B2 x.fs.length d2,.int .i64 x.rest] 27) (.cells #[.int .i64 y.k,.int .i64 y.v,.slice A3 y.args.length c3,.slice B3 y.fs.length d3,.int .i64 y.rest] 27)from hSw);go_simp;(try with_reducible rfl)
  try simp only[Act.put,List.setIfInBounds_toArray,List.set_cons_zero,List.set_cons_succ]
  refine tk1 9 (oi:={ dst:=some 87,op:=_,type:=_,pos:=_,after:=_,guard:=_ }) (v:=?_) rfl (by rfl) ?_ ?_ (hS:=hHeld)
  rotate_left
  ·intro w' hSw;have hc:=cells5 (show Box4 w' W.heap.size (.cells #[.int .i64 a.k,.int .i64 a.v,.slice A a.args.length c,.slice B a.fs.length d,.int .i64 a.rest] 27) (.cells #[.int .i64 b.k,.int .i64 b.v,.slice A' b.args.length c',.slice B' b.fs.length d',.int .i64 b.rest] 27) (.cells #[.int .i64 x.k,.int .i64 x.v,.slice A2 x.args.length c2,.slice B2 x.fs.length d2,.int .i64 x.rest] 27) (.cells #[.int .i64 y.k,.int .i64 y.v,.slice A3 y.args.length c3,.slice B3 y.fs.length d3,.int .i64 y.rest] 27)from hSw).2.1;have hl:=Box4.lt (show Box4 w' W.heap.size (.cells #[.int .i64 a.k,.int .i64 a.v,.slice A a.args.length c,.slice B a.fs.length d,.int .i64 a.rest] 27) (.cells #[.int .i64 b.k,.int .i64 b.v,.slice A' b.args.length c',.slice B' b.fs.length d',.int .i64 b.rest] 27) (.cells #[.int .i64 x.k,.int .i64 x.v,.slice A2 x.args.length c2,.slice B2 x.fs.length d2,.int .i64 x.rest] 27) (.cells #[.int .i64 y.k,.int .i64 y.v,.slice A3 y.args.length c3,.slice B3 y.fs.length d3,.int .i64 y.rest] 27)from hSw);go_simp;(try with_reducible rfl)
  try simp only[Act.put,List.setIfInBounds_toArray,List.set_cons_zero,List.set_cons_succ]
  refine tk1 13 (oi:={ dst:=some 91,op:=_,type:=_,pos:=_,after:=_,guard:=_ }) (v:=?_) rfl (by rfl) ?_ ?_ (hS:=hHeld)
  rotate_left
  ·intro w' hSw;go_simp;(try with_reducible rfl)
  try simp only[Act.put,List.setIfInBounds_toArray,List.set_cons_zero,List.set_cons_succ]
  refine tk1 14 (oi:={ dst:=some 92,op:=_,type:=_,pos:=_,after:=_,guard:=_ }) (v:=?_) rfl (by rfl) ?_ ?_ (hS:=hHeld)
  rotate_left
  ·intro w' hSw;have hc:=cells5 (show Box4 w' W.heap.size (.cells #[.int .i64 a.k,.int .i64 a.v,.slice A a.args.length c,.slice B a.fs.length d,.int .i64 a.rest] 27) (.cells #[.int .i64 b.k,.int .i64 b.v,.slice A' b.args.length c',.slice B' b.fs.length d',.int .i64 b.rest] 27) (.cells #[.int .i64 x.k,.int .i64 x.v,.slice A2 x.args.length c2,.slice B2 x.fs.length d2,.int .i64 x.rest] 27) (.cells #[.int .i64 y.k,.int .i64 y.v,.slice A3 y.args.length c3,.slice B3 y.fs.length d3,.int .i64 y.rest] 27)from hSw).1;have hl:=Box4.lt (show Box4 w' W.heap.size (.cells #[.int .i64 a.k,.int .i64 a.v,.slice A a.args.length c,.slice B a.fs.length d,.int .i64 a.rest] 27) (.cells #[.int .i64 b.k,.int .i64 b.v,.slice A' b.args.length c',.slice B' b.fs.length d',.int .i64 b.rest] 27) (.cells #[.int .i64 x.k,.int .i64 x.v,.slice A2 x.args.length c2,.slice B2 x.fs.length d2,.int .i64 x.rest] 27) (.cells #[.int .i64 y.k,.int .i64 y.v,.slice A3 y.args.length c3,.slice B3 y.fs.length d3,.int .i64 y.rest] 27)from hSw);go_simp;(try with_reducible rfl)
  try simp only[Act.put,List.setIfInBounds_toArray,List.set_cons_zero,List.set_cons_succ]
  refine tk1 15 (oi:={ dst:=some 93,op:=_,type:=_,pos:=_,after:=_,guard:=_ }) (v:=?_) rfl (by rfl) ?_ ?_ (hS:=hHeld)
  rotate_left
  ·intro w' hSw;have hc:=cells5 (show Box4 w' W.heap.size (.cells #[.int .i64 a.k,.int .i64 a.v,.slice A a.args.length c,.slice B a.fs.length d,.int .i64 a.rest] 27) (.cells #[.int .i64 b.k,.int .i64 b.v,.slice A' b.args.length c',.slice B' b.fs.length d',.int .i64 b.rest] 27) (.cells #[.int .i64 x.k,.int .i64 x.v,.slice A2 x.args.length c2,.slice B2 x.fs.length d2,.int .i64 x.rest] 27) (.cells #[.int .i64 y.k,.int .i64 y.v,.slice A3 y.args.length c3,.slice B3 y.fs.length d3,.int .i64 y.rest] 27)from hSw).2.1;have hl:=Box4.lt (show Box4 w' W.heap.size (.cells #[.int .i64 a.k,.int .i64 a.v,.slice A a.args.length c,.slice B a.fs.length d,.int .i64 a.rest] 27) (.cells #[.int .i64 b.k,.int .i64 b.v,.slice A' b.args.length c',.slice B' b.fs.length d',.int .i64 b.rest] 27) (.cells #[.int .i64 x.k,.int .i64 x.v,.slice A2 x.args.length c2,.slice B2 x.fs.length d2,.int .i64 x.rest] 27) (.cells #[.int .i64 y.k,.int .i64 y.v,.slice A3 y.args.length c3,.slice B3 y.fs.length d3,.int .i64 y.rest] 27)from hSw);go_simp;(try with_reducible rfl)
  try simp only[Act.put,List.setIfInBounds_toArray,List.set_cons_zero,List.set_cons_succ]
  refine tkc 10 (oi:={ dst:=some 88,op:=_,type:=_,pos:=_,after:=_,guard:=_ }) rfl (fun K hK=>?_)
  go_simp
  refine(lfun2 (t:=ab) EAB.out (Ta2.out.keep (sh0 (HF8.out.trans g0))) (Tb2.out.keep (sh0 (HF8.out.trans g0)))).mono ?_
  rintro e z1 ⟨X1,rfl,ht1,f9⟩
  have g1:=g0.trans f9
  go_simp
  refine hK.out _ _ (Box4.fr0 hHeld f9) (fun hHeld=>?_)
  clear hK K
  have HT1:=Lib.hid ht1
  clear ht1 f9
  try simp only[Act.put,List.setIfInBounds_toArray,List.set_cons_zero,List.set_cons_succ]
  refine tkc 11 (oi:={ dst:=some 89,op:=_,type:=_,pos:=_,after:=_,guard:=_ }) rfl (fun K hK=>?_)
  go_simp
  refine(sv_Apply (t:=ab) (S8.out.fr g1) W6.out HT1.out).mono ?_
  rw[← HXE.out]
  rintro e y1 ⟨A5,c5,B5,d5,rfl,ht5,hS5,h1⟩
  go_simp
  refine hK.out _ _ (Box4.fr hHeld h1 (by simp;omega)) (fun hHeld=>?_)
  clear hK K
  have D1:=(HF8.out.trans g1).step h1 (fun z hz => .inr (by simp at hz;omega))
  have VV1:=(V8.out.fr g1).beside h1 (sol_notQ (S8.out.fr g1)) HAP.out
  have LX:=lim_of HFEW.out ht5 WX6.out
  clear hS5 HT1 g0
  try simp only[Act.put,List.setIfInBounds_toArray,List.set_cons_zero,List.set_cons_succ]
  refine tkc 12 (oi:={ dst:=some 90,op:=_,type:=_,pos:=_,after:=_,guard:=_ }) rfl (fun K hK=>?_)
  go_simp
  refine(canon_any ht5 WX6.out LX hsz).mono ?_
  rw[← HZ.out]
  rintro e y2 ⟨A6',c6,B6,d6,rfl,ht6,h2⟩
  go_simp
  refine hK.out _ _ (Box4.fr0 hHeld h2) (fun hHeld=>?_)
  clear hK K
  have D2:=D1.trans h2
  have VV2:=VV1.fr h2
  have LZ:=lim_canon LX
  rw[← HZ.out] at LZ
  have HT6:=Lib.hid ht6
  clear ht5 ht6
  try simp only[Act.put,List.setIfInBounds_toArray,List.set_cons_zero,List.set_cons_succ]
  refine tkc 16 (oi:={ dst:=some 94,op:=_,type:=_,pos:=_,after:=_,guard:=_ }) rfl (fun K hK=>?_)
  go_simp
  refine(lfun2 (t:=ab) EAB.out (Ta2.out.keep (sh0 D2)) (Tb2.out.keep (sh0 D2))).mono ?_
  rintro e y3 ⟨X2,rfl,ht2,f9⟩
  go_simp
  refine hK.out _ _ (Box4.fr0 hHeld f9) (fun hHeld=>?_)
  clear hK K
  have D3:=D2.trans f9
  have VV3:=VV2.fr f9
  have HT2:=Lib.hid ht2
  have HT7:=Lib.hid (HT6.out.keep (w':=y3) (ok':=okW y3) (fun z hz hlt=>sh0 f9 z hz.1 hlt))
  clear ht2 HT6
  try simp only[Act.put,List.setIfInBounds_toArray,List.set_cons_zero,List.set_cons_succ]
  refine tkc 17 (oi:={ dst:=some 95,op:=_,type:=_,pos:=_,after:=_,guard:=_ }) rfl (fun K hK=>?_)
  go_simp
  refine(sv_Apply (t:=ab) VV3 W8.out HT2.out).mono ?_
  rw[← HXE8.out]
  rintro e y4 ⟨A7',c7,B7,d7,rfl,ht7,hS7,h4⟩
  go_simp
  refine hK.out _ _ (Box4.fr hHeld h4 (by simp;omega)) (fun hHeld=>?_)
  clear hK K
  have D4:=D3.step h4 (fun z hz => .inr (by simp at hz;omega))
  have LX2:=lim_of HFEW.out ht7 WX8.out
  have HT8:=Lib.hid (HT7.out.keep (w':=y4) (ok':=okW y4) (Sh.q (Fr.refl [] y3) h4 VV3))
  clear hS7 HT7 HT2
  try simp only[Act.put,List.setIfInBounds_toArray,List.set_cons_zero,List.set_cons_succ]
  refine tkc 18 (oi:={ dst:=some 96,op:=_,type:=_,pos:=_,after:=_,guard:=_ }) rfl (fun K hK=>?_)
  go_simp
  refine(canon_any ht7 WX8.out LX2 hsz).mono ?_
  rw[← HZ.out]
  rintro e y5 ⟨A8',c8,B8,d8,rfl,ht8,h5⟩
  go_simp
  refine hK.out _ _ (Box4.fr0 hHeld h5) (fun hHeld=>?_)
  clear hK K
  have D5:=D4.trans h5
  have HT9:=Lib.hid (HT8.out.keep (w':=y5) (ok':=okW y5) (sh0 h5))
  try simp only[Act.put,List.setIfInBounds_toArray,List.set_cons_zero,List.set_cons_succ]
  refine tkc 19 (oi:={ dst:=some 97,op:=_,type:=_,pos:=_,after:=_,guard:=_ }) rfl (fun K hK=>?_)
  go_simp
  refine(cS y5 _ _ A6' B6 A8' B8 c6 d6 c8 d8 LZ HT9.out ht8).out.mono ?_
  rintro e y6 ⟨rfl,h6⟩
  go_simp
  refine hK.out _ _ (Box4.fr0 hHeld h6) (fun hHeld=>?_)
  clear hK K
  have D6:=Lib.hid (D5.trans h6)
  try simp only[Act.put,List.setIfInBounds_toArray,List.set_cons_zero,List.set_cons_succ]
  refine tk1 20 (oi:={ dst:=some 98,op:=_,type:=_,pos:=_,after:=_,guard:=_ }) (v:=?_) rfl (by rfl) ?_ ?_ (hS:=hHeld)
  rotate_left
  ·intro w' hSw;go_simp;(try with_reducible rfl)
  try simp only[Act.put,List.setIfInBounds_toArray,List.set_cons_zero,List.set_cons_succ]
  refine tk1 21 (oi:={ dst:=some 99,op:=_,type:=_,pos:=_,after:=_,guard:=_ }) (v:=?_) rfl (by rfl) ?_ ?_ (hS:=hHeld)
  rotate_left
  ·intro w' hSw;go_simp;(try with_reducible rfl)
  try simp only[Act.put,List.setIfInBounds_toArray,List.set_cons_zero,List.set_cons_succ]
  refine tk1 22 (oi:={ dst:=some 8,op:=_,type:=_,pos:=_,after:=_,guard:=_ }) (v:=?_) rfl (by rfl) ?_ ?_ (hS:=hHeld)
  rotate_left
  ·intro w' hSw;go_simp;(try with_reducible rfl)
  try simp only[Act.put,List.setIfInBounds_toArray,List.set_cons_zero,List.set_cons_succ]
  refine wpAnyH_done (by kernel_rfl) ?_ _
  go_wp2_with fail
  go_ret
  exact⟨by first|rfl|simp,D6.out⟩
end
end
section
open Go.ChangeShapes Go.WideShapes Go.ChangeAt Go.ChangeMaps Go.RowKit
theorem rowParts_facts:joinedFacts Tryz.pinned.checked.prog 7 Tryz.f7 (OpenSpec.ofChange Rows.rowPartsSpec).bare Rows.rowPartsRow=true:=by kernel_rfl
theorem rowParts_reads(os:Os){H:Type}(enc:TypeId×Value→H):∃ places,DataW.whole enc Tryz.prog ((doorW os).forCall (fun _ _=>0) ⟨#[],#[.agg #[.int .i64 0,.int .i64 0,.slice none 0 0,.slice none 0 0,.int .i64 0],.agg #[.int .i64 0,.int .i64 0,.slice none 0 0,.slice none 0 0,.int .i64 0],.agg #[.int .i64 0,.int .i64 0,.slice none 0 0,.slice none 0 0,.int .i64 0],.agg #[.int .i64 0,.int .i64 0,.slice none 0 0,.slice none 0 0,.int .i64 0]],[]⟩).memory Tryz.f7.params.toList Rows.rowPartsSpec.vars false (#[.agg #[.int .i64 0,.int .i64 0,.slice none 0 0,.slice none 0 0,.int .i64 0],.agg #[.int .i64 0,.int .i64 0,.slice none 0 0,.slice none 0 0,.int .i64 0],.agg #[.int .i64 0,.int .i64 0,.slice none 0 0,.slice none 0 0,.int .i64 0],.agg #[.int .i64 0,.int .i64 0,.slice none 0 0,.slice none 0 0,.int .i64 0]]:Array Value).toList 8=some ([.agg [.lit (.int .i64 0),.lit (.int .i64 0),.nil,.agg [.nil,.lit (.int .i64 0)]],.agg [.lit (.int .i64 0),.lit (.int .i64 0),.nil,.agg [.nil,.lit (.int .i64 0)]],.agg [.lit (.int .i64 0),.lit (.int .i64 0),.nil,.agg [.nil,.lit (.int .i64 0)]],.agg [.lit (.int .i64 0),.lit (.int .i64 0),.nil,.agg [.nil,.lit (.int .i64 0)]]],[],places):=
 ⟨[],by kernel_rfl⟩
set_option maxRecDepth 100000 in
theorem rowParts_contract(H:Type)(enc:TypeId×Value→H)(W:World)(base:Nat)(args:Array Value)(ds gs:List (DataW H))(before:List MemPlace)
  (hval:∀ (j:Nat) t v,Tryz.f7.params[j]?=some t→args[j]?=some v→Value.okWide Tryz.prog W .any base t v)
  (hW:DataW.Whole enc Tryz.prog Tryz.f7.params.toList Rows.rowPartsSpec.vars false W args.toList ds gs before):
  Calls Tryz.prog 7 args W fun e W'=>∃ v,e = .returned v∧Rows.rowPartsSpec.post enc Tryz.prog Tryz.f7 false true false false W args v W':=by
 letI:LoB:=⟨W.heap.size⟩
 have hW':=hW
 obtain⟨p,q,hA0,hV,rfl,hfz,hnd⟩:=hW
 have hA:DataW.TrodAll enc Tryz.prog W 0 (fun _=>true) true Tryz.f7.params.toList args.toList ds p:=hA0
 rw[Tryz.params7] at hA hval
 obtain⟨v0,vs0,d0,ds0,p0,q0,hargs,rfl,rfl,t0,r0⟩:=trodAll_cons hA
 obtain⟨v1,vs1,d1,ds1,p1,q1,rfl,rfl,rfl,t1,r1⟩:=trodAll_cons r0
 obtain⟨v2,vs2,d2,ds2,p2,q2,rfl,rfl,rfl,t2,r2⟩:=trodAll_cons r1
 obtain⟨v3,vs3,d3,ds3,p3,q3,rfl,rfl,rfl,t3,r3⟩:=trodAll_cons r2
 obtain⟨rfl,rfl,rfl⟩:=trodAll_nil r3
 obtain rfl:args = #[v0,v1,v2,v3]:=by cases args;simp_all
 obtain⟨rfl,rfl⟩:=trodVars_none hV
 have tkx:=t0
 obtain⟨csx,rfl⟩:=agg_ofT Tryz.underlying27 (hval 0 27 v0 rfl rfl)
 obtain⟨x,Ax,cx,Bx,ex,rfl,xt⟩:=open_arg_ty rfl t0
 have hltx:∀ z ∈ p0,z.block<W.heap.size:=fun z hz=>hW'.lt z (by simp[hz])
 have tky:=t1
 obtain⟨csy,rfl⟩:=agg_ofT Tryz.underlying27 (hval 1 27 v1 rfl rfl)
 obtain⟨y,Ay,cy,By,ey,rfl,yt⟩:=open_arg_ty rfl t1
 have hlty:∀ z ∈ p1,z.block<W.heap.size:=fun z hz=>hW'.lt z (by simp[hz])
 have tkz:=t2
 obtain⟨csz,rfl⟩:=agg_ofT Tryz.underlying27 (hval 2 27 v2 rfl rfl)
 obtain⟨z,Az,cz,Bz,ez,rfl,zt⟩:=open_arg_ty rfl t2
 have hltz:∀ z ∈ p2,z.block<W.heap.size:=fun z hz=>hW'.lt z (by simp[hz])
 have tku:=t3
 obtain⟨csu,rfl⟩:=agg_ofT Tryz.underlying27 (hval 3 27 v3 rfl rfl)
 obtain⟨u,Au,cu,Bu,eu,rfl,ut⟩:=open_arg_ty rfl t3
 have hltu:∀ z ∈ p3,z.block<W.heap.size:=fun z hz=>hW'.lt z (by simp[hz])
 clear hA0
 simp only[List.append_nil] at hW'
 refine(RowParts_walk rfl xt yt zt ut).mono fun e W' ⟨he,hf⟩=>?_
 subst he
 refine⟨_,rfl,_,_,_,[],p0++(p1++(p2++(p3++([])))),[],hW',?_,?_,rfl,hf.below0.frame _,fun h=>by cases h⟩
 ·exact trodAll_cons_mk (shut_bool Tryz.underlying4 _) trodAll_mk0
 ·exact trodAll_cons_mk (Below.trod laidOutT (by kernel_rfl) (of_decide_eq_true (by kernel_rfl)) tkx hf.below0 hltx) (trodAll_cons_mk (Below.trod laidOutT (by kernel_rfl) (of_decide_eq_true (by kernel_rfl)) tky hf.below0 hlty) (trodAll_cons_mk (Below.trod laidOutT (by kernel_rfl) (of_decide_eq_true (by kernel_rfl)) tkz hf.below0 hltz) (trodAll_cons_mk (Below.trod laidOutT (by kernel_rfl) (of_decide_eq_true (by kernel_rfl)) tku hf.below0 hltu) trodAll_mk0)))
set_option maxRecDepth 100000 in
theorem rowParts_lifted(os:Os)(started:os.Started)(H:Type)(enc:TypeId×Value→H)(F:Stop.Interp):
  ReturnsInHanded {} Tryz.checked os 7 .any ((OpenSpec.ofChange Rows.rowPartsSpec).preRow enc Tryz.prog Tryz.f7 Rows.rowPartsRow.domain false Rows.rowPartsRow.laid) (((OpenSpec.ofChange Rows.rowPartsSpec).at F).post enc Tryz.prog Tryz.f7 false true false false):=by
 obtain⟨places,hx⟩:=rowParts_reads os enc
 refine returnsInHanded_of_row (C:=Tryz.checked) (s:=OpenSpec.ofChange Rows.rowPartsSpec) own started (by kernel_rfl) Tryz.func7
  (witness_row_atRef (enc:=enc) (C:=Tryz.checked) false (doorW os) #[.agg #[.int .i64 0,.int .i64 0,.slice none 0 0,.slice none 0 0,.int .i64 0],.agg #[.int .i64 0,.int .i64 0,.slice none 0 0,.slice none 0 0,.int .i64 0],.agg #[.int .i64 0,.int .i64 0,.slice none 0 0,.slice none 0 0,.int .i64 0],.agg #[.int .i64 0,.int .i64 0,.slice none 0 0,.slice none 0 0,.int .i64 0]] rfl (by kernel_rfl) (by kernel_rfl) (by kernel_rfl)
   (OpenSpec.preRow_of_cond 8 hx (by kernel_rfl) (fun k hk=>by cases hk) (by kernel_rfl) (laid_met os _))) ?_
 intro W base args ds gs before hval hW _ _ _ _ _ _
 exact rowParts_contract H enc W base args ds gs before hval hW
theorem rowParts_said:Rows.RowPartsSaid :=
 OpenClaim.holds_of_cond 7 Tryz.f7 rfl rfl rfl rfl rfl rfl rfl ⟨rfl,rfl,rfl,rfl,rfl⟩ rfl rfl rfl rfl rfl (by kernel_rfl) Tryz.func7 rowParts_facts
  (of_decide_eq_true (by kernel_rfl)) (by unfold Func.isWrapper;first|(rw[if_pos (by decide +kernel)];kernel_rfl)| (rw[if_neg (by decide +kernel)];exact⟨rfl,rfl⟩))
  (fun os started H enc _ F=>by rw[OpenClaim.pre_eq_preRow];exact rowParts_lifted os started H enc F)
theorem rowParts_plain (f : FuncId) (fn : Func) (hf : Tryz.pinned.checked.prog.funcNamed "marquetry/marquetrylaw10.RowParts" = some f) (hfn : Tryz.pinned.checked.prog.funcs[f]? = some fn) :
  false=Tryz.pinned.checked.prog.looks []∧∀ (j:Nat) t,fn.params[j]?=some t→Tryz.pinned.checked.prog.wantsStandIn t=false:=by
 obtain rfl : f = 7 := Option.some.inj ((show Tryz.prog.funcNamed "marquetry/marquetrylaw10.RowParts" = some 7 by kernel_rfl).symm.trans hf) |>.symm
 obtain rfl:fn=Tryz.f7:=(Option.some.inj (Tryz.func7.symm.trans hfn)).symm
 refine⟨by kernel_rfl,fun j t ht=>?_⟩
 rw[Tryz.params7] at ht
 have hm:t ∈ [27,27,27,27]:=by simpa using Array.mem_of_getElem? ht
 have hall:([27,27,27,27].all fun u=>!Tryz.prog.wantsStandIn u)=true:=by kernel_rfl
 exact(show Tryz.prog.wantsStandIn t=false by simpa using List.all_eq_true.1 hall t hm)
theorem rowParts_card:Rows.RowPartsCardSaid :=
 Claim7.holds_tied_plain_at .later [] _ _ _ _ rowParts_said (fun _ h=>by cases h) (by kernel_rfl) (fun _ h=>by cases h) rowParts_row_tie rfl ⟨rfl,rfl⟩ (by kernel_rfl) rfl rowParts_plain (by kernel_rfl)
end
end Go.Proofs.YtoimdiballicnaaGreatDoor
