/- What was unified is the same, resolved; resolved once more it is the same still, and it may be: proved for every input. -/
import Derived.Test.YtoimdiballicnaaGreatDoorHb11
namespace Go.Proofs.YtoimdiballicnaaGreatDoor
open Go.RowKit
set_option linter.all false
set_option maxHeartbeats 16000000
set_option maxRecDepth 100000
section
attribute [local go_sem ↓] Go.wp_at_zero Go.wp_at_succ
section
variable [LoB]
attribute [local instance] Ex.no
theorem RowSame_walk{W:World}(hlo:LoB.lo=W.heap.size){a b:TyT}{A B A' B':Option Addr}{c d c' d':Nat}{P0:List UInt8→Prop}(ta:TyAt W (okW W) P0 a [.int .i64 a.k,.int .i64 a.v,.slice A a.args.length c,.slice B a.fs.length d,.int .i64 a.rest])(tb:TyAt W (okW W) P0 b [.int .i64 b.k,.int .i64 b.v,.slice A' b.args.length c',.slice B' b.fs.length d',.int .i64 b.rest]):
  Calls Tryz.prog 3 #[.agg #[.int .i64 a.k,.int .i64 a.v,.slice A a.args.length c,.slice B a.fs.length d,.int .i64 a.rest],.agg #[.int .i64 b.k,.int .i64 b.v,.slice A' b.args.length c',.slice B' b.fs.length d',.int .i64 b.rest]] W fun e w'=>e = .returned (.bool true)∧Fr [] W w':=by
 have f0:=((Fr.refl [] W).alloc (.cells #[.int .i64 a.k,.int .i64 a.v,.slice A a.args.length c,.slice B a.fs.length d,.int .i64 a.rest] 27)).alloc (.cells #[.int .i64 b.k,.int .i64 b.v,.slice A' b.args.length c',.slice B' b.fs.length d',.int .i64 b.rest] 27)
 have g0:=heap_old (heap_new W (.cells #[.int .i64 a.k,.int .i64 a.v,.slice A a.args.length c,.slice B a.fs.length d,.int .i64 a.rest] 27)) (.cells #[.int .i64 b.k,.int .i64 b.v,.slice A' b.args.length c',.slice B' b.fs.length d',.int .i64 b.rest] 27)
 have g1:=heap_new (W.alloc (.cells #[.int .i64 a.k,.int .i64 a.v,.slice A a.args.length c,.slice B a.fs.length d,.int .i64 a.rest] 27)) (.cells #[.int .i64 b.k,.int .i64 b.v,.slice A' b.args.length c',.slice B' b.fs.length d',.int .i64 b.rest] 27)
 rw[World.size_alloc] at g1
 obtain⟨⟨l0,l1,l2,l3,l4⟩,_⟩:=cells5 g0
 obtain⟨⟨k0,k1,k2,k3,k4⟩,_⟩:=cells5 g1
 have ls:=lt_of_heap g0
 have ks:=lt_of_heap g1
 have JA:=Lib.hid g0
 have JB:=Lib.hid g1
 have HF0:=Lib.hid f0
 have TA:=Lib.hid ta
 have TB:=Lib.hid tb
 have hs0:=f0.size
 clear f0 g0 g1 ta tb
 go_enter Tryz.func3,Tryz.ntmps3
 go_wp2_with fail
 refine(lawake_any (by omega)).mono ?_
 rintro e w1 ⟨rfl,f1⟩
 have JAn:=f1.keep JA.out (fun x=>by cases x)
 have JBn:=f1.keep JB.out (fun x=>by cases x)
 clear l0 l1 l2 l3 l4 ls JA k0 k1 k2 k3 k4 ks JB
 have JA:=Lib.hid JAn
 clear JAn
 obtain⟨⟨l0,l1,l2,l3,l4⟩,_⟩:=cells5 JA.out
 have ls:=lt_of_heap JA.out
 have JB:=Lib.hid JBn
 clear JBn
 obtain⟨⟨k0,k1,k2,k3,k4⟩,_⟩:=cells5 JB.out
 have ks:=lt_of_heap JB.out
 have HF1:=Lib.hid (HF0.out.trans f1)
 clear f1
 go_wp2_with fail
 refine(lsmall_any HF1.out TA.out).mono ?_
 rintro e w2 ⟨q1,rfl,hq1,f2⟩
 have JAn:=f2.keep JA.out (fun x=>by cases x)
 have JBn:=f2.keep JB.out (fun x=>by cases x)
 clear l0 l1 l2 l3 l4 ls JA k0 k1 k2 k3 k4 ks JB
 have JA:=Lib.hid JAn
 clear JAn
 obtain⟨⟨l0,l1,l2,l3,l4⟩,_⟩:=cells5 JA.out
 have ls:=lt_of_heap JA.out
 have JB:=Lib.hid JBn
 clear JBn
 obtain⟨⟨k0,k1,k2,k3,k4⟩,_⟩:=cells5 JB.out
 have ks:=lt_of_heap JB.out
 have HF2:=Lib.hid (HF1.out.trans f2)
 clear f2
 cases q1 with
 | false =>
  go_wp2_with fail
  go_ret
  exact⟨rfl,HF2.out⟩
 | true =>
 obtain⟨sa,va⟩:=hq1 rfl
 have VA:=Lib.hid va
 clear hq1 va
 go_wp2_with fail
 refine(lsmall_any HF2.out TB.out).mono ?_
 rintro e w3 ⟨q2,rfl,hq2,f3⟩
 have JAn:=f3.keep JA.out (fun x=>by cases x)
 have JBn:=f3.keep JB.out (fun x=>by cases x)
 clear l0 l1 l2 l3 l4 ls JA k0 k1 k2 k3 k4 ks JB
 have JA:=Lib.hid JAn
 clear JAn
 obtain⟨⟨l0,l1,l2,l3,l4⟩,_⟩:=cells5 JA.out
 have ls:=lt_of_heap JA.out
 have JB:=Lib.hid JBn
 clear JBn
 obtain⟨⟨k0,k1,k2,k3,k4⟩,_⟩:=cells5 JB.out
 have ks:=lt_of_heap JB.out
 have HF3:=Lib.hid (HF2.out.trans f3)
 clear f3
 cases q2 with
 | false =>
  go_wp2_with fail
  go_ret
  exact⟨rfl,HF3.out⟩
 | true =>
 obtain⟨sb,vb⟩:=hq2 rfl
 have VB:=Lib.hid vb
 clear hq2 vb
 go_wp2_with fail
 refine(ltogether_any (TA.out.keep (sh0 HF3.out)) (TB.out.keep (sh0 HF3.out)) sa sb).mono ?_
 rintro e w4 ⟨q3,rfl,hq3,f4⟩
 have JAn:=f4.keep JA.out (fun x=>by cases x)
 have JBn:=f4.keep JB.out (fun x=>by cases x)
 clear l0 l1 l2 l3 l4 ls JA k0 k1 k2 k3 k4 ks JB
 have JA:=Lib.hid JAn
 clear JAn
 obtain⟨⟨l0,l1,l2,l3,l4⟩,_⟩:=cells5 JA.out
 have ls:=lt_of_heap JA.out
 have JB:=Lib.hid JBn
 clear JBn
 obtain⟨⟨k0,k1,k2,k3,k4⟩,_⟩:=cells5 JB.out
 have ks:=lt_of_heap JB.out
 have HF4:=Lib.hid (HF3.out.trans f4)
 have hk4:=ks
 clear f4
 cases q3 with
 | false =>
  go_wp2_with fail
  go_ret
  exact⟨rfl,HF4.out⟩
 | true =>
 obtain⟨G,hp,hr,wa,wb,hok,hbd,hsup⟩:=mayG_fn (hq3 rfl) VA.out VB.out
 have hfew:=few_two wa wb sa sb
 have TA2:=Lib.hid (TA.out.labs (Q:=(· ∈ labT a++labT b)) (fun x hx=>List.mem_append_left _ hx))
 have TB2:=Lib.hid (TB.out.labs (Q:=(· ∈ labT a++labT b)) (fun x hx=>List.mem_append_right _ hx))
 have HP:=Lib.hid hp
 have HR:=Lib.hid hr
 have WA:=Lib.hid wa
 have WB:=Lib.hid wb
 have HOK:=Lib.hid hok
 have HBD:=Lib.hid hbd
 have HSUP:=Lib.hid hsup
 have HFEW:=Lib.hid hfew
 clear hq3 hp hr wa wb hok hbd hsup hfew TA TB VA VB
 go_wp2_with fail
 refine(sv_New _ (by have:=HF4.out.size;omega)).mono ?_
 rintro e w5 ⟨Q,rfl,hQ,f5,hS⟩
 have S5:=Lib.hid (hS G _ HP.out HR.out HFEW.out)
 have JAn:=f5.keep JA.out (fun x=>by cases x)
 have JBn:=f5.keep JB.out (fun x=>by cases x)
 clear l0 l1 l2 l3 l4 ls JA k0 k1 k2 k3 k4 ks JB
 have JA:=Lib.hid JAn
 clear JAn
 obtain⟨⟨l0,l1,l2,l3,l4⟩,_⟩:=cells5 JA.out
 have ls:=lt_of_heap JA.out
 have JB:=Lib.hid JBn
 clear JBn
 obtain⟨⟨k0,k1,k2,k3,k4⟩,_⟩:=cells5 JB.out
 have ks:=lt_of_heap JB.out
 have HF5:=Lib.hid (HF4.out.trans f5)
 have hs4:=HF4.out.size
 clear f5 hS
 go_wp2_with fail
 obtain⟨n,r,hn,hc⟩:=sv_Unify S5.out HOK.out (by have:=HBD.out;omega) (TA2.out.keep (sh0 HF5.out)) (TB2.out.keep (sh0 HF5.out))
 refine hc.mono ?_
 rintro e w6 ⟨rfl,h6,hx⟩
 have h6q:Fr [Q] w5 w6:=h6
 have JAn:=h6q.keep JA.out (by simp;omega)
 have JBn:=h6q.keep JB.out (by simp;omega)
 clear l0 l1 l2 l3 l4 ls JA k0 k1 k2 k3 k4 ks JB
 have JA:=Lib.hid JAn
 clear JAn
 obtain⟨⟨l0,l1,l2,l3,l4⟩,_⟩:=cells5 JA.out
 have ls:=lt_of_heap JA.out
 have JB:=Lib.hid JBn
 clear JBn
 obtain⟨⟨k0,k1,k2,k3,k4⟩,_⟩:=cells5 JB.out
 have ks:=lt_of_heap JB.out
 have HF6:=Lib.hid (HF5.out.step h6q (fun x hx => .inr (by simp at hx;omega)))
 obtain⟨e0,A9⟩:=r
 have HN:=Lib.hid hn
 have HX:=Lib.hid hx
 clear hn hc hx h6 h6q
 by_cases hz:e0=0
 rotate_left
 ·have q1:(e0 != 0)=true:=by simp[hz]
  clear hz
  go_wp2_with fail
  go_ret
  exact⟨rfl,HF6.out⟩
 subst hz
 obtain⟨G9,M0,M1,M2,R9,hU,hadv,hL,_⟩:=HX.out rfl
 obtain⟨_,_,hsame⟩:=Unify_same HOK.out HN.out
 have hlt6:∀ x ∈ solL Q M0 M1 M2,x<w6.heap.size:=fun x hx=>(hU.sw.at_.not_ok x hx).2
 have S6:=Lib.hid hU.sw
 have hq6:=hU.sw.at_.lt
 obtain⟨Z,hZ⟩:∃ Z,Z=ap A9.s a:=⟨_,rfl⟩
 rw[← hZ] at hsame
 have hZZ:ap A9.s Z=Z:=by rw[hZ];exact ap_ap hU.ok.so a
 have wZ:WfT G9 Z:=by rw[hZ];exact ap_wf hU.ok.sw (wfT_le hadv.le WA.out)
 have HZ:=Lib.hid hZ
 have HZB:=Lib.hid hsame
 have HZZ:=Lib.hid hZZ
 have WZ:=Lib.hid wZ
 have WA9:=Lib.hid (wfT_le hadv.le WA.out)
 have WB9:=Lib.hid (wfT_le hadv.le WB.out)
 clear hZ hsame hZZ wZ hU hadv hL HX HN
 go_wp2_with fail
 refine(sv_Apply S6.out WA9.out (TA2.out.keep (sh0 HF6.out))).mono ?_
 rw[← HZ.out]
 rintro e w7 ⟨A1,c1,B1,d1,rfl,htx,hS7,f7⟩
 have JAn:=f7.keep JA.out (by simp;omega)
 have JBn:=f7.keep JB.out (by simp;omega)
 clear l0 l1 l2 l3 l4 ls JA k0 k1 k2 k3 k4 ks JB
 have JA:=Lib.hid JAn
 clear JAn
 obtain⟨⟨l0,l1,l2,l3,l4⟩,_⟩:=cells5 JA.out
 have ls:=lt_of_heap JA.out
 have JB:=Lib.hid JBn
 clear JBn
 obtain⟨⟨k0,k1,k2,k3,k4⟩,_⟩:=cells5 JB.out
 have ks:=lt_of_heap JB.out
 have HF7:=Lib.hid (HF6.out.step f7 (fun x hx => .inr (by simp at hx;omega)))
 have S7:=Lib.hid hS7
 have TX:=Lib.hid htx
 have hs7:=f7.size
 clear htx hS7 f7
 have gX:=heap_new w7 (.cells #[.int .i64 Z.k,.int .i64 Z.v,.slice A1 Z.args.length c1,.slice B1 Z.fs.length d1,.int .i64 Z.rest] 27)
 have fX:=(Fr.refl [] w7).alloc (.cells #[.int .i64 Z.k,.int .i64 Z.v,.slice A1 Z.args.length c1,.slice B1 Z.fs.length d1,.int .i64 Z.rest] 27)
 have hz7:=World.size_alloc w7 (.cells #[.int .i64 Z.k,.int .i64 Z.v,.slice A1 Z.args.length c1,.slice B1 Z.fs.length d1,.int .i64 Z.rest] 27)
 have JAn:=fX.keep JA.out (fun x=>by cases x)
 have JBn:=fX.keep JB.out (fun x=>by cases x)
 clear l0 l1 l2 l3 l4 ls JA k0 k1 k2 k3 k4 ks JB
 have JA:=Lib.hid JAn
 clear JAn
 obtain⟨⟨l0,l1,l2,l3,l4⟩,_⟩:=cells5 JA.out
 have ls:=lt_of_heap JA.out
 have JB:=Lib.hid JBn
 clear JBn
 obtain⟨⟨k0,k1,k2,k3,k4⟩,_⟩:=cells5 JB.out
 have ks:=lt_of_heap JB.out
 have JX:=Lib.hid gX
 have HFX:=Lib.hid (HF7.out.trans fX)
 have SX:=Lib.hid (S7.out.fr fX)
 have FX:=Lib.hid fX
 clear gX fX
 go_wp2_with fail
 refine(sv_Apply SX.out WB9.out (TB2.out.keep (sh0 HFX.out))).mono ?_
 rw[← HZB.out]
 rintro e w8 ⟨A2,c2,B2,d2,rfl,hty,hS8,f8⟩
 have jx:=f8.keep JX.out (by simp;omega)
 have HF8:=Lib.hid (HFX.out.step f8 (fun x hx => .inr (by simp at hx;omega)))
 have S8:=Lib.hid hS8
 have TY:=Lib.hid hty
 have hs8:=f8.size
 have TX8:=Lib.hid (TX.out.keep (w':=w8) (ok':=okW w8) (fun b hb hlt=>by
  have h1:=okW_fr FX.out hb.1 (fun x=>by cases x) hlt
  have hn:b ∉ [Q]:=fun hx=>by
   simp at hx
   subst hx
   exact(S7.out.at_.not_ok b (by simp[solL])).1 hb.1
  have hl2:=Nat.lt_of_lt_of_le hlt FX.out.size
  exact⟨okW_fr f8 h1 hn hl2,(f8.block b hl2 hn).trans (FX.out.block b hlt (fun x=>by cases x)),Nat.lt_of_lt_of_le hl2 f8.size⟩))
 clear hty hS8 f8 l0 l1 l2 l3 l4 ls k0 k1 k2 k3 k4 ks JA JB
 have gY:=heap_new w8 (.cells #[.int .i64 Z.k,.int .i64 Z.v,.slice A2 Z.args.length c2,.slice B2 Z.fs.length d2,.int .i64 Z.rest] 27)
 have fY:=(Fr.refl [] w8).alloc (.cells #[.int .i64 Z.k,.int .i64 Z.v,.slice A2 Z.args.length c2,.slice B2 Z.fs.length d2,.int .i64 Z.rest] 27)
 have hz8:=World.size_alloc w8 (.cells #[.int .i64 Z.k,.int .i64 Z.v,.slice A2 Z.args.length c2,.slice B2 Z.fs.length d2,.int .i64 Z.rest] 27)
 have jx9:=fY.keep jx (fun x=>by cases x)
 have HFY:=Lib.hid (HF8.out.trans fY)
 have SY:=Lib.hid (S8.out.fr fY)
 have TXY:=Lib.hid (TX8.out.keep (sh0 fY))
 have TYY:=Lib.hid (TY.out.keep (w':=w8.alloc (.cells #[.int .i64 Z.k,.int .i64 Z.v,.slice A2 Z.args.length c2,.slice B2 Z.fs.length d2,.int .i64 Z.rest] 27)) (ok':=okW (w8.alloc (.cells #[.int .i64 Z.k,.int .i64 Z.v,.slice A2 Z.args.length c2,.slice B2 Z.fs.length d2,.int .i64 Z.rest] 27))) (fun b hb hlt=>⟨okW_fr fY hb.1 (fun x=>by cases x) hlt,fY.block b hlt (fun x=>by cases x),Nat.lt_of_lt_of_le hlt fY.size⟩))
 obtain⟨⟨x0,x1,x2,x3,x4⟩,_⟩:=cells5 jx9
 obtain⟨⟨y0,y1,y2,y3,y4⟩,_⟩:=cells5 gY
 have xs:=lt_of_heap jx9
 have ys:=lt_of_heap gY
 have hLZ:=Lib.hid (lim_of HFEW.out TXY.out WZ.out)
 clear gY fY jx9 jx
 go_upto_region 10 with(fail)
 generalize w8.alloc (.cells #[.int .i64 Z.k,.int .i64 Z.v,.slice A2 Z.args.length c2,.slice B2 Z.fs.length d2,.int .i64 Z.rest] 27)=wr at *
 generalize hB8:w8.heap.size=Y8 at *
 generalize hB7:w7.heap.size=X7 at *
 have hqr:=SY.out.at_.lt
 have cS1:=Lib.hid (rsame_all _ wr wr.drew _ _ _ _ Z A1 B1 A2 B2 c1 d1 c2 d2 (Nat.lt_succ_self _) (Fr.refl [] wr).drew hLZ.out TXY.out TYY.out)
 have cS2:=fun(X:World) (ok:Nat→Prop) (A3 B3:Option Addr) (c3 d3:Nat) (h1:TyAt X ok (· ∈ labT a++labT b) Z [.int .i64 Z.k,.int .i64 Z.v,.slice A3 Z.args.length c3,.slice B3 Z.fs.length d3,.int .i64 Z.rest]) (h2:TyAt X (okW X) (· ∈ labT a++labT b) Z [.int .i64 Z.k,.int .i64 Z.v,.slice A1 Z.args.length c1,.slice B1 Z.fs.length d1,.int .i64 Z.rest])=>Lib.hid (rsame_all _ X X _ _ _ _ Z A3 B3 A1 B1 c3 d3 c1 d1 (Nat.lt_succ_self _) (Fr.refl [] X) hLZ.out h1 h2)
 go_region_held3 (fun w'=>w'.cell? ⟨X7,0,none⟩=some (.int .i64 Z.k)∧w'.cell? ⟨X7,1,none⟩=some (.int .i64 Z.v)∧w'.cell? ⟨X7,2,none⟩=some (.slice A1 Z.args.length c1)∧w'.cell? ⟨X7,3,none⟩=some (.slice B1 Z.fs.length d1)∧w'.cell? ⟨X7,4,none⟩=some (.int .i64 Z.rest)∧w'.cell? ⟨Y8,0,none⟩=some (.int .i64 Z.k)∧w'.cell? ⟨Y8,1,none⟩=some (.int .i64 Z.v)∧w'.cell? ⟨Y8,2,none⟩=some (.slice A2 Z.args.length c2)∧w'.cell? ⟨Y8,3,none⟩=some (.slice B2 Z.fs.length d2)∧w'.cell? ⟨Y8,4,none⟩=some (.int .i64 Z.rest)) (first|go_keep|exact N1|exact N2|exact N3|exact N4)
  ((first|((with_reducible refine cS1.out.mono ?_);rintro e z1 ⟨rfl,e1⟩;have E1:=(Fr.refl [] wr).drew.trans e1;have N1:=And.intro (kcJ E1 x0 xs) (And.intro (kcJ E1 x1 xs) (And.intro (kcJ E1 x2 xs) (And.intro (kcJ E1 x3 xs) (And.intro (kcJ E1 x4 xs) (And.intro (kcJ E1 y0 ys) (And.intro (kcJ E1 y1 ys) (And.intro (kcJ E1 y2 ys) (And.intro (kcJ E1 y3 ys) (kcJ E1 y4 ys))))))))))| ((with_reducible refine(sv_Apply (t:=Z) (SY.out.fr E1) WZ.out (TXY.out.keep (sh0 E1))).mono ?_);rw[HZZ.out];rintro e z2 ⟨A3,c3,B3,d3,rfl,ht3,hS3,e2⟩;have N2:=And.intro ((e2.cell (p:=⟨X7,0,none⟩) (Nat.lt_of_lt_of_le xs E1.size) (by simp;omega)).trans N1.1) (And.intro ((e2.cell (p:=⟨X7,1,none⟩) (Nat.lt_of_lt_of_le xs E1.size) (by simp;omega)).trans N1.2.1) (And.intro ((e2.cell (p:=⟨X7,2,none⟩) (Nat.lt_of_lt_of_le xs E1.size) (by simp;omega)).trans N1.2.2.1) (And.intro ((e2.cell (p:=⟨X7,3,none⟩) (Nat.lt_of_lt_of_le xs E1.size) (by simp;omega)).trans N1.2.2.2.1) (And.intro ((e2.cell (p:=⟨X7,4,none⟩) (Nat.lt_of_lt_of_le xs E1.size) (by simp;omega)).trans N1.2.2.2.2.1) (And.intro ((e2.cell (p:=⟨Y8,0,none⟩) (Nat.lt_of_lt_of_le ys E1.size) (by simp;omega)).trans N1.2.2.2.2.2.1) (And.intro ((e2.cell (p:=⟨Y8,1,none⟩) (Nat.lt_of_lt_of_le ys E1.size) (by simp;omega)).trans N1.2.2.2.2.2.2.1) (And.intro ((e2.cell (p:=⟨Y8,2,none⟩) (Nat.lt_of_lt_of_le ys E1.size) (by simp;omega)).trans N1.2.2.2.2.2.2.2.1) (And.intro ((e2.cell (p:=⟨Y8,3,none⟩) (Nat.lt_of_lt_of_le ys E1.size) (by simp;omega)).trans N1.2.2.2.2.2.2.2.2.1) ((e2.cell (p:=⟨Y8,4,none⟩) (Nat.lt_of_lt_of_le ys E1.size) (by simp;omega)).trans N1.2.2.2.2.2.2.2.2.2)))))))));have E2:=HFY.out.trans E1)| ((with_reducible refine(cS2 z2 _ A3 B3 c3 d3 ht3 (TXY.out.keep (Sh.q E1 e2 SY.out))).out.mono ?_);rintro e z3 ⟨rfl,e3⟩;have N3:=And.intro (kcJ e3 N2.1 (Nat.lt_of_lt_of_le (Nat.lt_of_lt_of_le xs E1.size) e2.size)) (And.intro (kcJ e3 N2.2.1 (Nat.lt_of_lt_of_le (Nat.lt_of_lt_of_le xs E1.size) e2.size)) (And.intro (kcJ e3 N2.2.2.1 (Nat.lt_of_lt_of_le (Nat.lt_of_lt_of_le xs E1.size) e2.size)) (And.intro (kcJ e3 N2.2.2.2.1 (Nat.lt_of_lt_of_le (Nat.lt_of_lt_of_le xs E1.size) e2.size)) (And.intro (kcJ e3 N2.2.2.2.2.1 (Nat.lt_of_lt_of_le (Nat.lt_of_lt_of_le xs E1.size) e2.size)) (And.intro (kcJ e3 N2.2.2.2.2.2.1 (Nat.lt_of_lt_of_le (Nat.lt_of_lt_of_le ys E1.size) e2.size)) (And.intro (kcJ e3 N2.2.2.2.2.2.2.1 (Nat.lt_of_lt_of_le (Nat.lt_of_lt_of_le ys E1.size) e2.size)) (And.intro (kcJ e3 N2.2.2.2.2.2.2.2.1 (Nat.lt_of_lt_of_le (Nat.lt_of_lt_of_le ys E1.size) e2.size)) (And.intro (kcJ e3 N2.2.2.2.2.2.2.2.2.1 (Nat.lt_of_lt_of_le (Nat.lt_of_lt_of_le ys E1.size) e2.size)) (kcJ e3 N2.2.2.2.2.2.2.2.2.2 (Nat.lt_of_lt_of_le (Nat.lt_of_lt_of_le ys E1.size) e2.size)))))))))))| ((with_reducible refine(pMay_any WZ.out hLZ.out HFEW.out ((TXY.out.keep (Sh.q E1 e2 SY.out)).keep (sh0 e3))).mono ?_);rintro e z4 ⟨rfl,e4⟩;have N4:=And.intro (kcJ e4 N3.1 (Nat.lt_of_lt_of_le (Nat.lt_of_lt_of_le (Nat.lt_of_lt_of_le xs E1.size) e2.size) e3.size)) (And.intro (kcJ e4 N3.2.1 (Nat.lt_of_lt_of_le (Nat.lt_of_lt_of_le (Nat.lt_of_lt_of_le xs E1.size) e2.size) e3.size)) (And.intro (kcJ e4 N3.2.2.1 (Nat.lt_of_lt_of_le (Nat.lt_of_lt_of_le (Nat.lt_of_lt_of_le xs E1.size) e2.size) e3.size)) (And.intro (kcJ e4 N3.2.2.2.1 (Nat.lt_of_lt_of_le (Nat.lt_of_lt_of_le (Nat.lt_of_lt_of_le xs E1.size) e2.size) e3.size)) (And.intro (kcJ e4 N3.2.2.2.2.1 (Nat.lt_of_lt_of_le (Nat.lt_of_lt_of_le (Nat.lt_of_lt_of_le xs E1.size) e2.size) e3.size)) (And.intro (kcJ e4 N3.2.2.2.2.2.1 (Nat.lt_of_lt_of_le (Nat.lt_of_lt_of_le (Nat.lt_of_lt_of_le ys E1.size) e2.size) e3.size)) (And.intro (kcJ e4 N3.2.2.2.2.2.2.1 (Nat.lt_of_lt_of_le (Nat.lt_of_lt_of_le (Nat.lt_of_lt_of_le ys E1.size) e2.size) e3.size)) (And.intro (kcJ e4 N3.2.2.2.2.2.2.2.1 (Nat.lt_of_lt_of_le (Nat.lt_of_lt_of_le (Nat.lt_of_lt_of_le ys E1.size) e2.size) e3.size)) (And.intro (kcJ e4 N3.2.2.2.2.2.2.2.2.1 (Nat.lt_of_lt_of_le (Nat.lt_of_lt_of_le (Nat.lt_of_lt_of_le ys E1.size) e2.size) e3.size)) (kcJ e4 N3.2.2.2.2.2.2.2.2.2 (Nat.lt_of_lt_of_le (Nat.lt_of_lt_of_le (Nat.lt_of_lt_of_le ys E1.size) e2.size) e3.size)))))))))))))
 all_goals
  have HFF:=Lib.hid ((E2.step e2 (fun x hx => .inr (by simp at hx;omega))).trans (e3.trans e4))
  go_wp2_with fail
  go_ret
  exact⟨by first|rfl|simp,HFF.out⟩
end
end
section
open Go.ChangeShapes Go.WideShapes Go.ChangeAt Go.ChangeMaps Go.RowKit
theorem rowSame_facts:joinedFacts Tryz.pinned.checked.prog 3 Tryz.f3 (OpenSpec.ofChange Rows.rowSameSpec).bare Rows.rowSameRow=true:=by kernel_rfl
theorem rowSame_reads(os:Os){H:Type}(enc:TypeId×Value→H):∃ places,DataW.whole enc Tryz.prog ((doorW os).forCall (fun _ _=>0) ⟨#[],#[.agg #[.int .i64 0,.int .i64 0,.slice none 0 0,.slice none 0 0,.int .i64 0],.agg #[.int .i64 0,.int .i64 0,.slice none 0 0,.slice none 0 0,.int .i64 0]],[]⟩).memory Tryz.f3.params.toList Rows.rowSameSpec.vars false (#[.agg #[.int .i64 0,.int .i64 0,.slice none 0 0,.slice none 0 0,.int .i64 0],.agg #[.int .i64 0,.int .i64 0,.slice none 0 0,.slice none 0 0,.int .i64 0]]:Array Value).toList 8=some ([.agg [.lit (.int .i64 0),.lit (.int .i64 0),.nil,.agg [.nil,.lit (.int .i64 0)]],.agg [.lit (.int .i64 0),.lit (.int .i64 0),.nil,.agg [.nil,.lit (.int .i64 0)]]],[],places):=
 ⟨[],by kernel_rfl⟩
set_option maxRecDepth 100000 in
theorem rowSame_contract(H:Type)(enc:TypeId×Value→H)(W:World)(base:Nat)(args:Array Value)(ds gs:List (DataW H))(before:List MemPlace)
  (hval:∀ (j:Nat) t v,Tryz.f3.params[j]?=some t→args[j]?=some v→Value.okWide Tryz.prog W .any base t v)
  (hW:DataW.Whole enc Tryz.prog Tryz.f3.params.toList Rows.rowSameSpec.vars false W args.toList ds gs before):
  Calls Tryz.prog 3 args W fun e W'=>∃ v,e = .returned v∧Rows.rowSameSpec.post enc Tryz.prog Tryz.f3 false true false false W args v W':=by
 letI:LoB:=⟨W.heap.size⟩
 have hW':=hW
 obtain⟨p,q,hA0,hV,rfl,hfz,hnd⟩:=hW
 have hA:DataW.TrodAll enc Tryz.prog W 0 (fun _=>true) true Tryz.f3.params.toList args.toList ds p:=hA0
 rw[Tryz.params3] at hA hval
 obtain⟨v0,vs0,d0,ds0,p0,q0,hargs,rfl,rfl,t0,r0⟩:=trodAll_cons hA
 obtain⟨v1,vs1,d1,ds1,p1,q1,rfl,rfl,rfl,t1,r1⟩:=trodAll_cons r0
 obtain⟨rfl,rfl,rfl⟩:=trodAll_nil r1
 obtain rfl:args = #[v0,v1]:=by cases args;simp_all
 obtain⟨rfl,rfl⟩:=trodVars_none hV
 have tkx:=t0
 obtain⟨csx,rfl⟩:=agg_ofT Tryz.underlying27 (hval 0 27 v0 rfl rfl)
 obtain⟨x,Ax,cx,Bx,ex,rfl,xt⟩:=open_arg_ty rfl t0
 have hltx:∀ z ∈ p0,z.block<W.heap.size:=fun z hz=>hW'.lt z (by simp[hz])
 have tky:=t1
 obtain⟨csy,rfl⟩:=agg_ofT Tryz.underlying27 (hval 1 27 v1 rfl rfl)
 obtain⟨y,Ay,cy,By,ey,rfl,yt⟩:=open_arg_ty rfl t1
 have hlty:∀ z ∈ p1,z.block<W.heap.size:=fun z hz=>hW'.lt z (by simp[hz])
 clear hA0
 simp only[List.append_nil] at hW'
 refine(RowSame_walk rfl xt yt).mono fun e W' ⟨he,hf⟩=>?_
 subst he
 refine⟨_,rfl,_,_,_,[],p0++(p1++([])),[],hW',?_,?_,rfl,hf.below0.frame _,fun h=>by cases h⟩
 ·exact trodAll_cons_mk (shut_bool Tryz.underlying4 _) trodAll_mk0
 ·exact trodAll_cons_mk (Below.trod laidOutT (by kernel_rfl) (of_decide_eq_true (by kernel_rfl)) tkx hf.below0 hltx) (trodAll_cons_mk (Below.trod laidOutT (by kernel_rfl) (of_decide_eq_true (by kernel_rfl)) tky hf.below0 hlty) trodAll_mk0)
set_option maxRecDepth 100000 in
theorem rowSame_lifted(os:Os)(started:os.Started)(H:Type)(enc:TypeId×Value→H)(F:Stop.Interp):
  ReturnsInHanded {} Tryz.checked os 3 .any ((OpenSpec.ofChange Rows.rowSameSpec).preRow enc Tryz.prog Tryz.f3 Rows.rowSameRow.domain false Rows.rowSameRow.laid) (((OpenSpec.ofChange Rows.rowSameSpec).at F).post enc Tryz.prog Tryz.f3 false true false false):=by
 obtain⟨places,hx⟩:=rowSame_reads os enc
 refine returnsInHanded_of_row (C:=Tryz.checked) (s:=OpenSpec.ofChange Rows.rowSameSpec) own started (by kernel_rfl) Tryz.func3
  (witness_row_atRef (enc:=enc) (C:=Tryz.checked) false (doorW os) #[.agg #[.int .i64 0,.int .i64 0,.slice none 0 0,.slice none 0 0,.int .i64 0],.agg #[.int .i64 0,.int .i64 0,.slice none 0 0,.slice none 0 0,.int .i64 0]] rfl (by kernel_rfl) (by kernel_rfl) (by kernel_rfl)
   (OpenSpec.preRow_of_cond 8 hx (by kernel_rfl) (fun k hk=>by cases hk) (by kernel_rfl) (laid_met os _))) ?_
 intro W base args ds gs before hval hW _ _ _ _ _ _
 exact rowSame_contract H enc W base args ds gs before hval hW
theorem rowSame_said:Rows.RowSameSaid :=
 OpenClaim.holds_of_cond 3 Tryz.f3 rfl rfl rfl rfl rfl rfl rfl ⟨rfl,rfl,rfl,rfl,rfl⟩ rfl rfl rfl rfl rfl (by kernel_rfl) Tryz.func3 rowSame_facts
  (of_decide_eq_true (by kernel_rfl)) (by unfold Func.isWrapper;first|(rw[if_pos (by decide +kernel)];kernel_rfl)| (rw[if_neg (by decide +kernel)];exact⟨rfl,rfl⟩))
  (fun os started H enc _ F=>by rw[OpenClaim.pre_eq_preRow];exact rowSame_lifted os started H enc F)
theorem rowSame_plain (f : FuncId) (fn : Func) (hf : Tryz.pinned.checked.prog.funcNamed "marquetry/marquetrylaw10.RowSame" = some f) (hfn : Tryz.pinned.checked.prog.funcs[f]? = some fn) :
  false=Tryz.pinned.checked.prog.looks []∧∀ (j:Nat) t,fn.params[j]?=some t→Tryz.pinned.checked.prog.wantsStandIn t=false:=by
 obtain rfl : f = 3 := Option.some.inj ((show Tryz.prog.funcNamed "marquetry/marquetrylaw10.RowSame" = some 3 by kernel_rfl).symm.trans hf) |>.symm
 obtain rfl:fn=Tryz.f3:=(Option.some.inj (Tryz.func3.symm.trans hfn)).symm
 refine⟨by kernel_rfl,fun j t ht=>?_⟩
 rw[Tryz.params3] at ht
 have hm:t ∈ [27,27]:=by simpa using Array.mem_of_getElem? ht
 have hall:([27,27].all fun u=>!Tryz.prog.wantsStandIn u)=true:=by kernel_rfl
 exact(show Tryz.prog.wantsStandIn t=false by simpa using List.all_eq_true.1 hall t hm)
theorem rowSame_card:Rows.RowSameCardSaid :=
 Claim7.holds_tied_plain_at .later [] _ _ _ _ rowSame_said (fun _ h=>by cases h) (by kernel_rfl) (fun _ h=>by cases h) rowSame_row_tie rfl ⟨rfl,rfl⟩ (by kernel_rfl) rfl rowSame_plain (by kernel_rfl)
end
end Go.Proofs.YtoimdiballicnaaGreatDoor
