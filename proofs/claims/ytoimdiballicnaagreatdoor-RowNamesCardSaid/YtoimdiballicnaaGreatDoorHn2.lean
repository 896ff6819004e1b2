/- Other names for the variables change names alone: proved for every input. -/
import Derived.Test.YtoimdiballicnaaGreatDoorHn1
namespace Go.Proofs.YtoimdiballicnaaGreatDoor
open Go.RowKit
set_option linter.all false
set_option maxHeartbeats 16000000
set_option maxRecDepth 100000
section
attribute [local go_sem ↓] Go.wp_at_zero Go.wp_at_succ
section
variable [LoB]
attribute [local instance] Ex.no
def RNC(N:Nat):Prop:=∀ (w W:World)(ok:Nat→Prop)(P:List UInt8→Prop)(G:Ctx)(t:TyT)(A B X Y:Option Addr)(c d cx cy:Nat)(l m:List Int),rzT t<N→Fr [] w W→WfT G t→LimT t→l.length=m.length→l.length≤1073741824→IntsAt w X l→IntsAt w Y m →
  TyAt w ok P t [.int .i64 t.k,.int .i64 t.v,.slice A t.args.length c,.slice B t.fs.length d,.int .i64 t.rest] →
  Calls Tryz.prog 19 #[.agg #[.int .i64 t.k,.int .i64 t.v,.slice A t.args.length c,.slice B t.fs.length d,.int .i64 t.rest],.slice X l.length cx,.slice Y m.length cy] W fun e w'=>∃ (A':Option Addr) (c':Nat) (B':Option Addr) (d':Nat),e = .returned (.agg #[.int .i64 (ren (numL l m) t).k,.int .i64 (ren (numL l m) t).v,.slice A' (ren (numL l m) t).args.length c',.slice B' (ren (numL l m) t).fs.length d',.int .i64 (ren (numL l m) t).rest])∧
   TyAt w' (fun b=>okW w' b∧W.heap.size≤b) P (ren (numL l m) t) [.int .i64 (ren (numL l m) t).k,.int .i64 (ren (numL l m) t).v,.slice A' (ren (numL l m) t).args.length c',.slice B' (ren (numL l m) t).fs.length d',.int .i64 (ren (numL l m) t).rest]∧Fr [] W w'
theorem rename_step(N:Nat)(ih:RNC N):RNC (N+1):=by
 intro w W ok P G t A B X Y c d cx cy l m hN hW wt hL hlm hll hX hY ht
 obtain⟨k,v,args,fs,rest⟩:=t
 rw[rzT] at hN
 rw[LimT] at hL
 rw[WfT] at wt
 simp only[TyT.k,TyT.v,TyT.args,TyT.fs,TyT.rest] at ht ⊢
 obtain⟨v2,v3,he,har,hfs⟩:=TyAt.iff.1 ht
 cases he
 obtain⟨hal,hfl,hL3,hL4⟩:=hL
 obtain⟨wt1,wt2,wt3,wt4,wt5,wt6⟩:=wt
 have hal2:args.length≤2:=argN_le wt1
 obtain⟨g,hg⟩:∃ g,g=numL l m:=⟨_,rfl⟩
 obtain⟨Z,hZ⟩:∃ Z,Z=ren (numL l m) (.mk k v args fs rest):=⟨_,rfl⟩
 rw[← hZ]
 rw[ren,← hg] at hZ
 obtain⟨i0,hi,hz0,hz1,hz2⟩:=info_parts infoTy
 obtain⟨j0,hj,hy0,hy1,hy2⟩:=info_parts infoFd
 have HI:=Lib.hid hi
 have HZ0:=Lib.hid hz0
 have HZ1:=Lib.hid hz1
 have HZ2:=Lib.hid hz2
 have HJ:=Lib.hid hj
 have HY0:=Lib.hid hy0
 have HY1:=Lib.hid hy1
 have HY2:=Lib.hid hy2
 have HAR:=Lib.hid har
 have HFS:=Lib.hid hfs
 have IH:=Lib.hid ih
 have HN:=Lib.hid hN
 have HW:=Lib.hid hW
 have HL3:=Lib.hid (limTs_iff.1 hL3)
 have HL4:=Lib.hid (limFs_iff.1 hL4)
 have W4:=Lib.hid ((wfTs_iff G _).1 wt4)
 have W5:=Lib.hid ((wfFs_iff G _).1 wt5)
 have W2:=Lib.hid wt2
 have W3:=Lib.hid wt3
 have W6:=Lib.hid wt6
 have HLM:=Lib.hid hlm
 have HG:=Lib.hid hg
 have HZ:=Lib.hid hZ
 have HXI:=Lib.hid hX
 have HYI:=Lib.hid hY
 have hrest:0≤rest:=by
  by_cases hr:rwd k=true
  ·rw[if_pos hr] at wt6
   rcases wt6.2.2 with e|⟨e,_⟩<;> omega
  ·rw[if_neg hr] at wt6;exact Int.le_of_eq wt6.2.symm
 have f0:=(((Fr.refl [] W).alloc (.cells #[.int .i64 k,.int .i64 v,.slice A args.length c,.slice B fs.length d,.int .i64 rest] 27)).alloc (.cells #[.int .i64 0,.int .i64 0,.slice none 0 0,.slice none 0 0,.int .i64 0] 27)).alloc (.cells #[.int .i64 k,.int .i64 0,.slice none 0 0,.slice none 0 0,.int .i64 0] 27)
 have g0:=heap_old (heap_old (heap_new W (.cells #[.int .i64 k,.int .i64 v,.slice A args.length c,.slice B fs.length d,.int .i64 rest] 27)) (.cells #[.int .i64 0,.int .i64 0,.slice none 0 0,.slice none 0 0,.int .i64 0] 27)) (.cells #[.int .i64 k,.int .i64 0,.slice none 0 0,.slice none 0 0,.int .i64 0] 27)
 have g1:=heap_old (heap_new (W.alloc (.cells #[.int .i64 k,.int .i64 v,.slice A args.length c,.slice B fs.length d,.int .i64 rest] 27)) (.cells #[.int .i64 0,.int .i64 0,.slice none 0 0,.slice none 0 0,.int .i64 0] 27)) (.cells #[.int .i64 k,.int .i64 0,.slice none 0 0,.slice none 0 0,.int .i64 0] 27)
 have g2:=heap_new ((W.alloc (.cells #[.int .i64 k,.int .i64 v,.slice A args.length c,.slice B fs.length d,.int .i64 rest] 27)).alloc (.cells #[.int .i64 0,.int .i64 0,.slice none 0 0,.slice none 0 0,.int .i64 0] 27)) (.cells #[.int .i64 k,.int .i64 0,.slice none 0 0,.slice none 0 0,.int .i64 0] 27)
 rw[World.size_alloc] at g1
 rw[World.size_alloc,World.size_alloc] at g2
 obtain⟨⟨l0,l1,l2,l3,l4⟩,_⟩:=cells5 g0
 obtain⟨⟨o0,o1,o2,o3,o4⟩,oz0,oz1,oz2,oz3,oz4⟩:=cells5 g2
 have hs0:=lt_of_heap g0
 have hs2:=lt_of_heap g2
 have HF0:=Lib.hid f0
 have HG0:=Lib.hid g0
 have HG1:=Lib.hid g1
 have HG2:=Lib.hid g2
 clear ih har hfs hN hW ht f0 g0 g1 g2 hL3 hL4 wt4 wt5 wt6 wt2 wt3 hi hz0 hz1 hz2 hj hy0 hy1 hy2 hlm hg hZ hX hY wt1
 obtain⟨T0,hT0⟩:∃ T0,T0=W.heap.size:=⟨_,rfl⟩
 rw[← hT0]
 have HT0:=Lib.hid hT0
 clear hT0
 go_enter Tryz.func19,Tryz.ntmps19
 go_upto_if 16 with(fail)
 have hTT:W.heap.size=T0:=HT0.out.symm
 generalize ((W.alloc (.cells #[.int .i64 k,.int .i64 v,.slice A args.length c,.slice B fs.length d,.int .i64 rest] 27)).alloc (.cells #[.int .i64 0,.int .i64 0,.slice none 0 0,.slice none 0 0,.int .i64 0] 27)).alloc (.cells #[.int .i64 k,.int .i64 0,.slice none 0 0,.slice none 0 0,.int .i64 0] 27)=x at *
 rw[hTT]
 rw[hTT] at HG0 HG1 HG2 l0 l1 l2 l3 l4 o0 o1 o2 o3 o4 oz0 oz1 oz2 oz3 oz4 hs0 hs2
 obtain⟨v9,hv9⟩:∃ v9,v9=if k=1 then g v else v:=⟨_,rfl⟩
 have HV9:=Lib.hid hv9
 rw[← hv9] at HZ
 clear hv9
 have n1:¬ T0=T0+1+1:=by omega
 have n2:¬ T0+1+1=T0:=by omega
 have n3:¬ T0+1=T0+1+1:=by omega
 have n4:¬ T0+1+1=T0+1:=by omega
 go_cut [] (fun wx=>Hid (wx.heap[T0]?=some (.cells #[.int .i64 k,.int .i64 v,.slice A args.length c,.slice B fs.length d,.int .i64 rest] 27 (0,0)))∧Hid (wx.heap[T0+1]?=some (.cells #[.int .i64 0,.int .i64 0,.slice none 0 0,.slice none 0 0,.int .i64 0] 27 (0,0)))∧Hid (wx.heap[T0+1+1]?=some (.cells #[.int .i64 k,.int .i64 v9,.slice none 0 0,.slice none 0 0,.int .i64 0] 27 (0,0)))∧Hid (Fr [] W wx))
 case first =>
  by_cases h1:k=1
  ·have q1:(k==1)=true:=by simp[h1]
   have hv:v9=g v:=by rw[HV9.out,if_pos h1]
   have cN:=Lib.hid (number_any (HXI.out.fr (HW.out.trans HF0.out)) (HYI.out.fr (HW.out.trans HF0.out)) HLM.out hll v (cx:=cx) (cy:=cy))
   rw[← HG.out,← hv] at cN
   have fO:=(Fr.refl [T0+1+1] x).setCell (p:=⟨T0+1+1,1,none⟩) (.inl (by simp)) (.int .i64 v9)
   have R0:=Lib.hid (fO.keep HG0.out (by simp;omega))
   have R1:=Lib.hid (fO.keep HG1.out (by simp))
   have R2:Hid ((x.setCell ⟨T0+1+1,1,none⟩ (.int .i64 v9)).heap[T0+1+1]?=some (.cells #[.int .i64 k,.int .i64 v9,.slice none 0 0,.slice none 0 0,.int .i64 0] 27 (0,0))):=Lib.hid (by simp[World.setCell,Array.getElem?_modify,HG2.out])
   have R3:=Lib.hid (HF0.out.step fO (fun y hy => .inr (by simp at hy;omega)))
   clear h1 hv fO
   go_wp2_with fail
   refine cN.out.mono ?_
   rintro e w6 ⟨rfl,rfl⟩
   go_wp2_with fail
   go_meet
   exact⟨R0,R1,R2,R3⟩
  ·have q1:(k==1)=false:=beq_eq_false_iff_ne.2 h1
   have hv:v9=0:=by rw[HV9.out,if_neg h1];exact W3.out h1
   subst hv
   clear h1
   go_wp2_with fail
   go_meet
   exact⟨HG0,HG1,HG2,HF0⟩
 case rest =>
  obtain⟨HG0,HG1,HG2,HF0⟩:=hcut
  clear l0 l1 l2 l3 l4 o0 o1 o2 o3 o4 oz0 oz1 oz2 oz3 oz4 hs0 hs2
  have HA0:=Lib.hid (AppT.nil (T0+3) wc P)
  obtain⟨⟨l0,l1,l2,l3,l4⟩,_⟩:=cells5 HG0.out
  have hs0:=lt_of_heap HG0.out
  have hs2:=lt_of_heap HG2.out
  go_wp2_with fail
  go_loopw [8] (fun iv wr=>∃ (i:Nat) (don:List TyM) (A9:Option Addr) (c9:Nat),iv = .int .i64 i∧i≤args.length∧Hid (wr.heap[T0]?=some (.cells #[.int .i64 k,.int .i64 v,.slice A args.length c,.slice B fs.length d,.int .i64 rest] 27 (0,0)))∧Hid (wr.heap[T0+1]?=some (.cells #[.int .i64 0,.int .i64 0,.slice none 0 0,.slice none 0 0,.int .i64 0] 27 (0,0)))∧
   Hid (wr.heap[T0+1+1]?=some (.cells #[.int .i64 k,.int .i64 v9,.slice A9 don.length c9,.slice none 0 0,.int .i64 0] 27 (0,0)))∧Hid (don.map (·.t)=renTs g (args.take i))∧Hid (AppT (T0+3) P wr A9 c9 don)∧Hid (Fr [] W wr)) (fun iv wr=>args.length-(intOf iv).toNat)
  case atStart=>exact⟨0,[],none,0,rfl,by omega,HG0,HG1,HG2,Lib.hid rfl,HA0,HF0⟩
  case round =>
   obtain⟨i,don,A9,c9,rfl,hi,G0,G1,G2,HDN,HAP,HF⟩:=hrel
   clear HG0 HG1 HG2 HF0 HA0 l0 l1 l2 l3 l4 hs0 hs2
   have q1:(0:Int)≤(i:Int):=by omega
   have hsO:=lt_of_heap G2.out
   have hsT:=lt_of_heap G0.out
   obtain⟨⟨l0,l1,l2,l3,l4⟩,_⟩:=cells5 G0.out
   obtain⟨⟨o0,o1,o2,o3,o4⟩,oz0,oz1,oz2,oz3,oz4⟩:=cells5 G2.out
   by_cases hlt:i<args.length
   ·have hx:args[i]?=some args[i]:=List.getElem?_eq_getElem hlt
    generalize args[i]=z at hx
    have q2:(i:Int)<(args.length:Int):=by omega
    have hzm:=List.mem_of_getElem? hx
    obtain⟨gb,og,rfl,hok,hgb,B2,d2,D2,e2,hty,x0,x1,x2,x3,x4⟩:=HAR.out.at hx
    have fw:=HW.out.trans HF.out
    replace x0:=(fw.cell (p:=⟨gb,og+i * 5,none⟩) hgb (fun x=>by cases x)).trans x0
    replace x1:=(fw.cell (p:=⟨gb,og+i * 5+1,none⟩) hgb (fun x=>by cases x)).trans x1
    replace x2:=(fw.cell (p:=⟨gb,og+i * 5+2,none⟩) hgb (fun x=>by cases x)).trans x2
    replace x3:=(fw.cell (p:=⟨gb,og+i * 5+3,none⟩) hgb (fun x=>by cases x)).trans x3
    replace x4:=(fw.cell (p:=⟨gb,og+i * 5+4,none⟩) hgb (fun x=>by cases x)).trans x4
    have hgw:gb<wr.heap.size:=Nat.lt_of_lt_of_le hgb fw.size
    have hzN:rzT z<N:=by have:=rzTs_at hx;have:=HN.out;omega
    obtain⟨rz,hrz⟩:∃ rz,rz=ren g z:=⟨_,rfl⟩
    have cS:=fun X' (hX':Fr [] W X')=>Lib.hid (IH.out w X' ok P G z B2 D2 X Y d2 e2 cx cy l m hzN (HW.out.trans hX') (W4.out z hzm) (HL3.out z hzm) HLM.out hll HXI.out HYI.out hty)
    rw[← HG.out,← hrz] at cS
    have hdl:don.length≤2:=by
     have h1:=congrArg List.length HDN.out
     rw[List.length_map,renTs_map,List.length_map,List.length_take] at h1
     omega
    have HX:=Lib.hid hx
    have HRZ:=Lib.hid hrz
    have HOB:Hid (∀ b,b<T0+3→some b≠(Value.slice A9 don.length c9).ownBlock):=Lib.hid (fun b hb e=>by have:=(HAP.out.lo b e.symm).1;omega)
    have k7:=G2.out
    have t7:=G0.out
    clear hx hok hty fw hzm hzN hrz
    have hs3:T0+3≤wr.heap.size:=by omega
    have hgb3:gb<T0+3:=by have:=HW.out.size;omega
    have hgbO:¬ gb=T0+1+1:=by have:=HW.out.size;omega
    have hgbO2:¬ T0+1+1=gb:=by have:=HW.out.size;omega
    go_upto_region 7 with(fail)
    refine wp_region_tail1 13 (fun w'=>(w'.cell? ⟨T0,2,none⟩=some (.slice (some ⟨gb,og,none⟩) args.length c)∧(w'.cell? ⟨gb,og+i * 5,none⟩=some (.int .i64 z.k)∧w'.cell? ⟨gb,og+i * 5+1,none⟩=some (.int .i64 z.v)∧w'.cell? ⟨gb,og+i * 5+2,none⟩=some (.slice B2 z.args.length d2)∧w'.cell? ⟨gb,og+i * 5+3,none⟩=some (.slice D2 z.fs.length e2)∧w'.cell? ⟨gb,og+i * 5+4,none⟩=some (.int .i64 z.rest)))∧w'.cell? ⟨T0+1+1,2,none⟩=some (.slice A9 don.length c9)) (by kernel_rfl) (by kernel_rfl) rfl ⟨⟨l2,x0,x1,x2,x3,x4⟩,o2⟩ (fun K hK hHeld=>?hsx)
    dsimp only[List.take]
    refine held_take (i:=0) (v:=?vx_0) rfl (by kernel_rfl) (by kernel_rfl) (by kernel_rfl) (fun _ _ _ h=>h) (Or.inl ⟨by rfl,?yx_0⟩) hHeld ?rx_0
    case yx_0 =>
     intro w' hSw
     go_simp
     (try with_reducible rfl)
    (try simp only[Act.put,List.setIfInBounds_toArray,List.set_cons_zero,List.set_cons_succ])
    refine held_take (i:=1) (v:=?vx_1) rfl (by kernel_rfl) (by kernel_rfl) (by kernel_rfl) (fun _ _ _ h=>h) (Or.inl ⟨by rfl,?yx_1⟩) hHeld ?rx_1
    case yx_1 =>
     intro w' hSw
     go_simp
     (try with_reducible rfl)
    (try simp only[Act.put,List.setIfInBounds_toArray,List.set_cons_zero,List.set_cons_succ])
    refine held_take (i:=2) (v:=?vx_2) rfl (by kernel_rfl) (by kernel_rfl) (by kernel_rfl) (fun _ _ _ h=>h) (Or.inl ⟨by rfl,?yx_2⟩) hHeld ?rx_2
    case yx_2 =>
     intro w' hSw
     go_simp
     (try with_reducible rfl)
    (try simp only[Act.put,List.setIfInBounds_toArray,List.set_cons_zero,List.set_cons_succ])
    refine held_take (i:=3) (v:=?vx_3) rfl (by kernel_rfl) (by kernel_rfl) (by kernel_rfl) (fun _ _ _ h=>h) (Or.inl ⟨by rfl,?yx_3⟩) hHeld ?rx_3
    case yx_3 =>
     intro w' hSw
     go_simp
     (try with_reducible rfl)
    (try simp only[Act.put,List.setIfInBounds_toArray,List.set_cons_zero,List.set_cons_succ])
    refine held_take (i:=4) (v:=?vx_4) rfl (by kernel_rfl) (by kernel_rfl) (by kernel_rfl) (fun _ _ _ h=>h) (Or.inl ⟨by rfl,?yx_4⟩) hHeld ?rx_4
    case yx_4 =>
     intro w' hSw
     go_simp
     (try with_reducible rfl)
    (try simp only[Act.put,List.setIfInBounds_toArray,List.set_cons_zero,List.set_cons_succ])
    refine held_take (i:=5) (v:=?vx_5) rfl (by kernel_rfl) (by kernel_rfl) (by kernel_rfl) (fun _ _ _ h=>h) (Or.inl ⟨by rfl,?yx_5⟩) hHeld ?rx_5
    case yx_5 =>
     intro w' hSw
     go_simp
     (try with_reducible rfl)
    (try simp only[Act.put,List.setIfInBounds_toArray,List.set_cons_zero,List.set_cons_succ])
    refine held_take (i:=6) (v:=?vx_6) rfl (by kernel_rfl) (by kernel_rfl) (by kernel_rfl) (fun _ _ _ h=>h) (Or.inl ⟨by rfl,?yx_6⟩) hHeld ?rx_6
    case yx_6 =>
     intro w' hSw
     go_simp
     (try with_reducible rfl)
    (try simp only[Act.put,List.setIfInBounds_toArray,List.set_cons_zero,List.set_cons_succ])
    refine held_take (i:=7) (v:=?vx_7) rfl (by kernel_rfl) (by kernel_rfl) (by kernel_rfl) (fun _ _ _ h=>h) (Or.inl ⟨by rfl,?yx_7⟩) hHeld ?rx_7
    case yx_7 =>
     intro w' hSw
     go_simp
     (try with_reducible rfl)
    (try simp only[Act.put,List.setIfInBounds_toArray,List.set_cons_zero,List.set_cons_succ])
    refine held_take (i:=8) (v:=?vx_8) rfl (by kernel_rfl) (by kernel_rfl) (by kernel_rfl) (fun _ _ _ h=>h) (Or.inl ⟨by rfl,?yx_8⟩) hHeld ?rx_8
    case yx_8 =>
     intro w' hSw
     go_simp
     (try with_reducible rfl)
    (try simp only[Act.put,List.setIfInBounds_toArray,List.set_cons_zero,List.set_cons_succ])
    refine held_step (i:=9) rfl (by kernel_rfl) (fun K1 hK1=>?tx_9)
    go_simp
    (with_reducible refine(cS _ ((Fr.refl [] wr).drew |> HF.out.trans)).out.mono ?_)
    rintro e x6 ⟨A',c',B',d',rfl,hT6,f6⟩
    have F6:=(Fr.refl [] wr).drew.trans f6
    have M7:=And.intro (kcJ F6 l2 hsT) (And.intro (kcJ F6 x0 hgw) (And.intro (kcJ F6 x1 hgw) (And.intro (kcJ F6 x2 hgw) (And.intro (kcJ F6 x3 hgw) (kcJ F6 x4 hgw)))))
    have G6:=F6.keep k7 (fun x=>by cases x)
    have hTl:=lt_of_heap G6
    have HAP6:=Lib.hid (HAP.out.keep F6 (fun x hx=>by cases hx))
    obtain⟨⟨u0,u1,u2,u3,u4⟩,z0,z1,z2,z3,z4⟩:=cells5 G6
    have m1:¬ x6.heap.size=T0+1+1:=(by omega)
    have hgw6:=Nat.lt_of_lt_of_le hgw F6.size
    have hsT6:=Nat.lt_of_lt_of_le hsT F6.size
    have hT6':TyAt x6 (fun b=>okW x6 b∧wr.drew.heap.size≤b) P rz _:=hT6
    go_simp
    refine hK1.out _ _ (⟨M7,u2⟩) (fun hHeld=>?ux_9)
    clear hK1 K1
    (try simp only[Act.put,List.setIfInBounds_toArray,List.set_cons_zero,List.set_cons_succ])
    refine held_step (i:=10) rfl (by kernel_rfl) (fun K1 hK1=>?tx_10)
    go_simp
    go_simp
    refine hK1.out _ _ (⟨⟨kcJ ((Fr.refl [] x6).alloc _) M7.1 hsT6,kcJ ((Fr.refl [] x6).alloc _) M7.2.1 hgw6,kcJ ((Fr.refl [] x6).alloc _) M7.2.2.1 hgw6,kcJ ((Fr.refl [] x6).alloc _) M7.2.2.2.1 hgw6,kcJ ((Fr.refl [] x6).alloc _) M7.2.2.2.2.1 hgw6,kcJ ((Fr.refl [] x6).alloc _) M7.2.2.2.2.2 hgw6⟩,(cells5 (heap_old G6 _)).1.2.2.1⟩) (fun hHeld=>?ux_10)
    clear hK1 K1
    (try simp only[Act.put,List.setIfInBounds_toArray,List.set_cons_zero,List.set_cons_succ])
    refine held_step (i:=11) rfl (by kernel_rfl) (fun K1 hK1=>?tx_11)
    refine step_append_fp (by rfl) _ _ 22 (by rfl) 27 i0 _ 5 72 Tryz.underlying22 HI.out HZ0.out HZ1.out HZ2.out rfl (by decide) (.slice A9 don.length c9) don.length (don.flatMap encT) (by rfl) (ownsRow_fr HAP6.out.own ((Fr.refl [] x6).alloc _) (fun _ _ x=>by cases x)) ⟨x6.heap.size,0,none⟩ 1 1 [.int .i64 rz.k,.int .i64 rz.v,.slice A' rz.args.length c',.slice B' rz.fs.length d',.int .i64 rz.rest] (by rfl) rfl (World.news_of_block (heap_new x6 _)) (by simp[Value.oneCell']) (by simp only[maxLen];omega) (by omega) ?_
    intro v9' w9 hown9 hgrow9 hfp9
    obtain⟨g9,cp9,hv9⟩:=own_form hown9
    subst hv9
    have A6:=(Fr.refl [] x6).alloc (.cells #[.int .i64 rz.k,.int .i64 rz.v,.slice A' rz.args.length c',.slice B' rz.fs.length d',.int .i64 rz.rest] 27)
    have M9:=And.intro (kcG hgrow9 (kcJ A6 M7.1 hsT6) (by rw[World.size_alloc];exact Nat.lt_succ_of_lt hsT6) (HOB.out _ (by show T0<T0+3;omega))) (And.intro (kcG hgrow9 (kcJ A6 M7.2.1 hgw6) (by rw[World.size_alloc];exact Nat.lt_succ_of_lt hgw6) (HOB.out _ hgb3)) (And.intro (kcG hgrow9 (kcJ A6 M7.2.2.1 hgw6) (by rw[World.size_alloc];exact Nat.lt_succ_of_lt hgw6) (HOB.out _ hgb3)) (And.intro (kcG hgrow9 (kcJ A6 M7.2.2.2.1 hgw6) (by rw[World.size_alloc];exact Nat.lt_succ_of_lt hgw6) (HOB.out _ hgb3)) (And.intro (kcG hgrow9 (kcJ A6 M7.2.2.2.2.1 hgw6) (by rw[World.size_alloc];exact Nat.lt_succ_of_lt hgw6) (HOB.out _ hgb3)) (kcG hgrow9 (kcJ A6 M7.2.2.2.2.2 hgw6) (by rw[World.size_alloc];exact Nat.lt_succ_of_lt hgw6) (HOB.out _ hgb3))))))
    have G9:=(hgrow9.block (T0+1+1) (lt_of_heap (heap_old G6 _)) (HOB.out _ (by omega))).trans (heap_old G6 _)
    obtain⟨⟨u0,u1,u2,u3,u4⟩,z0,z1,z2,z3,z4⟩:=cells5 G9
    refine hK1.out _ _ (⟨M9,u2⟩) (fun hHeld=>?ux_11)
    clear hK1 K1
    (try simp only[Act.put,List.setIfInBounds_toArray,List.set_cons_zero,List.set_cons_succ])
    refine held_take (i:=12) (v:=?vx_12) rfl (by kernel_rfl) (by kernel_rfl) (by kernel_rfl) (fun _ _ _ h=>h) (Or.inl ⟨by rfl,?yx_12⟩) hHeld ?rx_12
    case yx_12 =>
     intro w' hSw
     go_simp
     (try with_reducible rfl)
    (try simp only[Act.put,List.setIfInBounds_toArray,List.set_cons_zero,List.set_cons_succ])
    refine wpAnyH_done (by kernel_rfl) ?_ _
    refine thenLast_run rfl ?_
    go_simp
    refine hK.out _ _ ?_
    clear hK K
    all_goals
     have hF6:Fr [] W x6:=HF.out.trans F6
     have hO9:=(hgrow9.block T0 (lt_of_heap (heap_old (F6.keep G0.out (fun x=>by cases x)) _)) (HOB.out _ (by omega))).trans (heap_old (F6.keep G0.out (fun x=>by cases x)) _)
     have hR9:=(hgrow9.block (T0+1) (lt_of_heap (heap_old (F6.keep G1.out (fun x=>by cases x)) _)) (HOB.out _ (by omega))).trans (heap_old (F6.keep G1.out (fun x=>by cases x)) _)
     have hs6:T0+3≤(x6.alloc (.cells #[.int .i64 rz.k,.int .i64 rz.v,.slice A' rz.args.length c',.slice B' rz.fs.length d',.int .i64 rz.rest] 27)).heap.size:=by rw[World.size_alloc];omega
     have hTa:=hT6'.keep (w':=x6.alloc (.cells #[.int .i64 rz.k,.int .i64 rz.v,.slice A' rz.args.length c',.slice B' rz.fs.length d',.int .i64 rz.rest] 27)) (ok':=fun b=>(okW (x6.alloc (.cells #[.int .i64 rz.k,.int .i64 rz.v,.slice A' rz.args.length c',.slice B' rz.fs.length d',.int .i64 rz.rest] 27)) b∧T0+3≤b)∧(Value.slice A9 don.length c9).ownBlock≠some b) (fun b hb hlt=>⟨⟨⟨okW_fr ((Fr.refl [] x6).alloc _) hb.1 (fun x=>by cases x) hlt,by have h1:wr.heap.size≤b:=hb.2;omega⟩,fun e=>by have h1:=(HAP.out.lo b e).2;have h2:wr.heap.size≤b:=hb.2;omega⟩,((Fr.refl [] x6).alloc _).block b hlt (fun x=>by cases x),by rw[World.size_alloc];omega⟩)
     have hap:=(HAP6.out.keep ((Fr.refl [] x6).alloc (.cells #[.int .i64 rz.k,.int .i64 rz.v,.slice A' rz.args.length c',.slice B' rz.fs.length d',.int .i64 rz.rest] 27)) (fun x hx=>by cases hx)).app (x:=⟨rz,A',c',B',d'⟩) hTa hs6 hown9 hgrow9 hfp9
     have fT:Fr [T0+1+1] w9 (w9.setCell ⟨T0+1+1,2,none⟩ (.slice (some ⟨g9,0,none⟩) (don.length+1) cp9)):=(Fr.refl [T0+1+1] w9).setCell (p:=⟨T0+1+1,2,none⟩) (.inl (by simp)) _
     have hF9:Fr [] W (w9.setCell ⟨T0+1+1,2,none⟩ (.slice (some ⟨g9,0,none⟩) (don.length+1) cp9)):=((hF6.alloc _).grown hgrow9 (fun k e => .inr (by have:=(HAP.out.lo k e).1;omega))).step fT (fun x hx => .inr (by simp at hx;omega))
     have R0:=Lib.hid (fT.keep hO9 (by simp;omega))
     have R1:=Lib.hid (fT.keep hR9 (by simp))
     have R2:Hid ((w9.setCell ⟨T0+1+1,2,none⟩ (.slice (some ⟨g9,0,none⟩) (don.length+1) cp9)).heap[T0+1+1]?=some (.cells #[.int .i64 k,.int .i64 v9,.slice (some ⟨g9,0,none⟩) (don.length+1) cp9,.slice none 0 0,.int .i64 0] 27 (0,0))):=Lib.hid (by simp[World.setCell,Array.getElem?_modify,G9])
     have R3:=Lib.hid (hap.keep fT (fun x hx=>by simp at hx;omega))
     have R4:=Lib.hid hF9
     have R5':Hid ((don++[(⟨rz,A',c',B',d'⟩:TyM)]).map (·.t)=renTs g (args.take (i+1))):=Lib.hid (by
      rw[List.take_add_one,HX.out,renTs_map,List.map_append,List.map_append,← renTs_map,← HDN.out,Option.toList_some,List.map_cons,List.map_nil,List.map_cons,List.map_nil,HRZ.out])
     clear hO9 hR9 hap fT hF9 hgrow9 hown9 hfp9 M9 G9 M7 G6 hT6 hT6' f6 F6 u0 u1 u2 u3 u4 z0 z1 z2 z3 z4 l0 l1 l2 l3 l4 o0 o1 o2 o3 o4 oz0 oz1 oz2 oz3 oz4 cS hF6 hs6 hTa x0 x1 x2 x3 x4 t7 k7 A6
     go_wp2_with fail
     go_roundw
     case rel=>exact⟨i+1,don++[⟨rz,A',c',B',d'⟩],some ⟨g9,0,none⟩,cp9,by first|rfl|simp|go_num,by omega,R0,R1,by rw[List.length_append,List.length_singleton];exact R2,R5',R3,R4⟩
     case measure=>simp[intOf];omega
   ·have q2:¬ (i:Int)<(args.length:Int):=by omega
    rw[List.take_of_length_le (by omega)] at HDN
    have hdl:don.length=args.length:=by
     have h1:=congrArg List.length HDN.out
     rw[List.length_map,renTs_map,List.length_map] at h1
     exact h1
    have HA:=Lib.hid HAP.out.done
    have HB0:=Lib.hid (AppF.nil wr.heap.size wr P)
    have hs3:T0+3≤wr.heap.size:=by omega
    clear hlt
    go_wp2_with fail
    obtain⟨w2,hw2⟩:∃ w2,w2=wr:=⟨_,rfl⟩
    subst hw2
    go_loopw [9] (fun iv wr=>∃ (i:Nat) (dn:List FdM) (F9:Option Addr) (f9:Nat),iv = .int .i64 i∧i≤fs.length∧Hid (wr.heap[T0]?=some (.cells #[.int .i64 k,.int .i64 v,.slice A args.length c,.slice B fs.length d,.int .i64 rest] 27 (0,0)))∧Hid (wr.heap[T0+1]?=some (.cells #[.int .i64 0,.int .i64 0,.slice none 0 0,.slice none 0 0,.int .i64 0] 27 (0,0)))∧
     Hid (wr.heap[T0+1+1]?=some (.cells #[.int .i64 k,.int .i64 v9,.slice A9 don.length c9,.slice F9 dn.length f9,.int .i64 0] 27 (0,0)))∧Hid (dn.map (·.fd)=renFs g (fs.take i))∧Hid (AppF w2.heap.size P wr F9 f9 dn)∧Hid (Fr [T0+1+1] w2 wr)) (fun iv wr=>fs.length-(intOf iv).toNat)
    case atStart=>exact⟨0,[],none,0,rfl,by omega,G0,G1,G2,Lib.hid rfl,HB0,Lib.hid (Fr.refl _ _)⟩
    case round =>
     clear G0 G1 G2 l0 l1 l2 l3 l4 o0 o1 o2 o3 o4 oz0 oz1 oz2 oz3 oz4 hsO hsT HB0
     obtain⟨i,dn,F9,f9,rfl,hi,G0,G1,G2,HDF,HAF,HF2⟩:=hrel
     have q1:(0:Int)≤(i:Int):=by omega
     have hsO:=lt_of_heap G2.out
     have hsT:=lt_of_heap G0.out
     obtain⟨⟨l0,l1,l2,l3,l4⟩,_⟩:=cells5 G0.out
     obtain⟨⟨o0,o1,o2,o3,o4⟩,oz0,oz1,oz2,oz3,oz4⟩:=cells5 G2.out
     have HFW:=Lib.hid (HF.out.step HF2.out (fun x hx => .inr (by simp at hx;omega)))
     have hs4:=HF2.out.size
     by_cases hlt:i<fs.length
     ·have hx:fs[i]?=some fs[i]:=List.getElem?_eq_getElem hlt
      generalize fs[i]=f at hx
      have q2:(i:Int)<(fs.length:Int):=by omega
      have hfm:=List.mem_of_getElem? hx
      have hlab:=HFS.out.lab f hfm
      obtain⟨gb,og,rfl,hok,hgb,Bf,df,Df,ef,hty,x0,x1,x2,x3,x4,x5,x6,x7⟩:=HFS.out.at hx
      have fw:=HW.out.trans HFW.out
      replace x0:=(fw.cell (p:=⟨gb,og+i * 8,none⟩) hgb (fun x=>by cases x)).trans x0
      replace x1:=(fw.cell (p:=⟨gb,og+i * 8+1,none⟩) hgb (fun x=>by cases x)).trans x1
      replace x2:=(fw.cell (p:=⟨gb,og+i * 8+2,none⟩) hgb (fun x=>by cases x)).trans x2
      replace x3:=(fw.cell (p:=⟨gb,og+i * 8+3,none⟩) hgb (fun x=>by cases x)).trans x3
      replace x4:=(fw.cell (p:=⟨gb,og+i * 8+4,none⟩) hgb (fun x=>by cases x)).trans x4
      replace x5:=(fw.cell (p:=⟨gb,og+i * 8+5,none⟩) hgb (fun x=>by cases x)).trans x5
      replace x6:=(fw.cell (p:=⟨gb,og+i * 8+6,none⟩) hgb (fun x=>by cases x)).trans x6
      replace x7:=(fw.cell (p:=⟨gb,og+i * 8+7,none⟩) hgb (fun x=>by cases x)).trans x7
      have hgw:gb<wr.heap.size:=Nat.lt_of_lt_of_le hgb fw.size
      have hzN:rzT f.t<N:=by have:=rzFs_at hx;have:=HN.out;omega
      have f7:=(Fr.refl [] wr).alloc (.cells #[.string ⟨f.lb.toArray⟩,.int .i64 f.pr,.int .i64 f.p,.int .i64 f.t.k,.int .i64 f.t.v,.slice Bf f.t.args.length df,.slice Df f.t.fs.length ef,.int .i64 f.t.rest] 44)
      have p7:=heap_new wr (.cells #[.string ⟨f.lb.toArray⟩,.int .i64 f.pr,.int .i64 f.p,.int .i64 f.t.k,.int .i64 f.t.v,.slice Bf f.t.args.length df,.slice Df f.t.fs.length ef,.int .i64 f.t.rest] 44)
      have hz7:=World.size_alloc wr (.cells #[.string ⟨f.lb.toArray⟩,.int .i64 f.pr,.int .i64 f.p,.int .i64 f.t.k,.int .i64 f.t.v,.slice Bf f.t.args.length df,.slice Df f.t.fs.length ef,.int .i64 f.t.rest] 44)
      obtain⟨⟨y0,y1,y2,y3,y4,y5,y6,y7⟩,yz0,yz1,yz2,yz3,yz4,yz5,yz6,yz7⟩:=cells8 p7
      have hp7:=lt_of_heap p7
      obtain⟨p9,hp9⟩:∃ p9,p9=if f.pr=2 then g f.p else f.p:=⟨_,rfl⟩
      obtain⟨rt,hrt⟩:∃ rt,rt=ren g f.t:=⟨_,rfl⟩
      have hrf:renF g f=⟨f.lb,f.pr,p9,rt⟩:=by obtain⟨lb,pr,p,t⟩:=f;rw[renF,hp9,hrt]
      have hwf:=wfF_pre (W5.out f hfm)
      have HWF:=Lib.hid hwf
      have HRF:=Lib.hid hrf
      have HP9:=Lib.hid hp9
      have HRT:=Lib.hid hrt
      have HX:=Lib.hid hx
      have HLB:=Lib.hid hlab
      have HTY:=Lib.hid hty
      have F7:=Lib.hid f7
      have P7:=Lib.hid p7
      have HZN:=Lib.hid hzN
      have HL4f:=Lib.hid (HL4.out f hfm)
      clear hx hfm hlab hok hty fw f7 p7 hp9 hrt hrf hwf hzN
      go_upto_if 59 with(fail)
      generalize wr.alloc (.cells #[.string ⟨f.lb.toArray⟩,.int .i64 f.pr,.int .i64 f.p,.int .i64 f.t.k,.int .i64 f.t.v,.slice Bf f.t.args.length df,.slice Df f.t.fs.length ef,.int .i64 f.t.rest] 44)=w7 at *
      generalize hC:wr.heap.size=C at *
      have nC0:¬ C=T0+1+1:=by omega
      have nC1:¬ T0+1+1=C:=by omega
      clear x0 x1 x2 x3 x4 x5 x6 x7
      go_cut [] (fun wx=>Hid (wx.heap[C]?=some (.cells #[.string ⟨f.lb.toArray⟩,.int .i64 f.pr,.int .i64 p9,.int .i64 f.t.k,.int .i64 f.t.v,.slice Bf f.t.args.length df,.slice Df f.t.fs.length ef,.int .i64 f.t.rest] 44 (0,0)))∧Hid (Fr [C] w7 wx))
      case first=>as_aux_lemma =>
       by_cases h2:f.pr=2
       ·have g2:(f.pr==2)=true:=by simp[h2]
        have hp:p9=g f.p:=by rw[HP9.out,if_pos h2]
        have fw7:=HW.out.trans (HFW.out.trans F7.out)
        have cN:=Lib.hid (number_any (HXI.out.fr fw7) (HYI.out.fr fw7) HLM.out hll f.p (cx:=cx) (cy:=cy))
        rw[← HG.out,← hp] at cN
        have fO:=(Fr.refl [C] w7).setCell (p:=⟨C,2,none⟩) (.inl (by simp)) (.int .i64 p9)
        have R2:Hid ((w7.setCell ⟨C,2,none⟩ (.int .i64 p9)).heap[C]?=some (.cells #[.string ⟨f.lb.toArray⟩,.int .i64 f.pr,.int .i64 p9,.int .i64 f.t.k,.int .i64 f.t.v,.slice Bf f.t.args.length df,.slice Df f.t.fs.length ef,.int .i64 f.t.rest] 44 (0,0))):=Lib.hid (by simp[World.setCell,Array.getElem?_modify,P7.out])
        have R3:=Lib.hid fO
        clear h2 hp fO fw7
        go_wp2_with fail
        refine cN.out.mono ?_
        rintro e w6 ⟨rfl,rfl⟩
        go_wp2_with fail
        go_meet
        exact⟨R2,R3⟩
       ·have g2:(f.pr==2)=false:=beq_eq_false_iff_ne.2 h2
        have hp:p9=f.p:=by rw[HP9.out,if_neg h2]
        have R3:=Lib.hid (Fr.refl [C] w7)
        subst hp
        clear h2
        go_wp2_with fail
        go_meet
        exact⟨P7,R3⟩
      case rest =>
       obtain⟨P8,F8⟩:=hcut
       obtain⟨w8,hw8⟩:∃ w8,w8=wc:=⟨_,rfl⟩
       subst hw8
       clear y0 y1 y2 y3 y4 y5 y6 y7 yz0 yz1 yz2 yz3 yz4 yz5 yz6 yz7 hp7 l0 l1 l2 l3 l4 o0 o1 o2 o3 o4 oz0 oz1 oz2 oz3 oz4
       obtain⟨⟨y0,y1,y2,y3,y4,y5,y6,y7⟩,yz0,yz1,yz2,yz3,yz4,yz5,yz6,yz7⟩:=cells8 P8.out
       have hp8:=lt_of_heap P8.out
       have F78:=Lib.hid (F7.out.step F8.out (fun x hx => .inr (by simp at hx;omega)))
       go_upto_if 68 with(fail)
       go_cut [] (fun wx=>∃ (A':Option Addr) (c':Nat) (B':Option Addr) (d':Nat),Hid (wx.heap[C]?=some (.cells #[.string ⟨f.lb.toArray⟩,.int .i64 f.pr,.int .i64 p9,.int .i64 rt.k,.int .i64 rt.v,.slice A' rt.args.length c',.slice B' rt.fs.length d',.int .i64 rt.rest] 44 (0,0)))∧Hid (TyAt wx (fun b=>okW wx b∧C+1≤b) P rt [.int .i64 rt.k,.int .i64 rt.v,.slice A' rt.args.length c',.slice B' rt.fs.length d',.int .i64 rt.rest])∧Hid (Fr [] wr wx))
       case first =>
        by_cases h0:f.pr=0
        ·have g0:(f.pr==0)=true:=by simp[h0]
         have g0':(f.pr != 0)=false:=by simp[h0]
         have hz:f.t = .zero:=by
          rcases HWF.out with⟨_,_,e⟩| ⟨e,_⟩| ⟨e,_⟩
          ·exact e
          ·omega
          ·omega
         have hrz:rt=f.t:=by rw[HRT.out,hz];unfold TyT.zero;rw[ren,renTs,renFs];rfl
         have R1:Hid (TyAt w8 (fun b=>okW w8 b∧C+1≤b) P f.t [.int .i64 f.t.k,.int .i64 f.t.v,.slice Bf f.t.args.length df,.slice Df f.t.fs.length ef,.int .i64 f.t.rest]):=Lib.hid (by rw[hz];exact TyAt.zero2 _ _ _ _ _ _ _)
         subst hrz
         clear h0 hz
         go_wp2_with fail
         go_meet
         exact⟨Bf,df,Df,ef,P8,R1,F78⟩
        ·have g0:(f.pr==0)=false:=beq_eq_false_iff_ne.2 h0
         have g0':(f.pr != 0)=true:=by simp[h0]
         have hwt:WfT G f.t:=by
          rcases HWF.out with⟨e,_⟩| ⟨_,_,e⟩| ⟨_,_,_,e⟩
          ·exact absurd e h0
          ·exact e
          ·exact e
         have cS:=Lib.hid (IH.out w w8 ok P G f.t Bf Df X Y df ef cx cy l m HZN.out (HW.out.trans (HFW.out.trans F78.out)) hwt HL4f.out HLM.out hll HXI.out HYI.out HTY.out)
         rw[← HG.out,← HRT.out] at cS
         clear h0 hwt
         go_wp2_with fail
         refine cS.out.mono ?_
         rintro e w9 ⟨A',c',B',d',rfl,hT9,f9'⟩
         have p9h:=f9'.keep P8.out (fun x=>by cases x)
         obtain⟨⟨b0,b1,b2,b3,b4,b5,b6,b7⟩,bz0,bz1,bz2,bz3,bz4,bz5,bz6,bz7⟩:=cells8 p9h
         have hC9:=lt_of_heap p9h
         have fO:Fr [C] w9 (st5o w9 C 3 (.int .i64 rt.k) (.int .i64 rt.v) (.slice A' rt.args.length c') (.slice B' rt.fs.length d') (.int .i64 rt.rest)):=((((((Fr.refl [C] w9).setCell (p:=⟨C,3,none⟩) (.inl (by simp)) _).setCell (p:=⟨C,3+1,none⟩) (.inl (by simp)) _).setCell (p:=⟨C,3+2,none⟩) (.inl (by simp)) _).setCell (p:=⟨C,3+3,none⟩) (.inl (by simp)) _).setCell (p:=⟨C,3+4,none⟩) (.inl (by simp)) _)
         have R1:Hid ((st5o w9 C 3 (.int .i64 rt.k) (.int .i64 rt.v) (.slice A' rt.args.length c') (.slice B' rt.fs.length d') (.int .i64 rt.rest)).heap[C]?=some (.cells #[.string ⟨f.lb.toArray⟩,.int .i64 f.pr,.int .i64 p9,.int .i64 rt.k,.int .i64 rt.v,.slice A' rt.args.length c',.slice B' rt.fs.length d',.int .i64 rt.rest] 44 (0,0))):=Lib.hid (by simp[st5o,World.setCell,Array.getElem?_modify,p9h])
         have R2:=Lib.hid (hT9.keep (ok':=fun b=>okW (st5o w9 C 3 (.int .i64 rt.k) (.int .i64 rt.v) (.slice A' rt.args.length c') (.slice B' rt.fs.length d') (.int .i64 rt.rest)) b∧C+1≤b) (w':=st5o w9 C 3 (.int .i64 rt.k) (.int .i64 rt.v) (.slice A' rt.args.length c') (.slice B' rt.fs.length d') (.int .i64 rt.rest)) (fun b hb hlt=>by
          have h2:=hb.2
          have hn:b ∉ [C]:=by simp;omega
          exact⟨⟨okW_fr fO hb.1 hn hlt,by omega⟩,fO.block b hlt hn,Nat.lt_of_lt_of_le hlt fO.size⟩))
         have R3:=Lib.hid ((F78.out.trans f9').step fO (fun x hx => .inr (by simp at hx;omega)))
         unfold st5o at R1 R2 R3
         simp only[Nat.reduceAdd] at R1 R2 R3
         clear cS fO f9' hT9 p9h
         go_wp2_with fail
         go_meet
         exact⟨A',c',B',d',R1,R2,R3⟩
       case rest =>
        obtain⟨A',c',B',d',P9,HT9,F89⟩:=hcut
        obtain⟨w10,hw10⟩:∃ w10,w10=wc:=⟨_,rfl⟩
        subst hw10
        clear y0 y1 y2 y3 y4 y5 y6 y7 yz0 yz1 yz2 yz3 yz4 yz5 yz6 yz7 hp8 P8 F8 F78
        obtain⟨⟨y0,y1,y2,y3,y4,y5,y6,y7⟩,_⟩:=cells8 P9.out
        have hp9':=lt_of_heap P9.out
        have G20:=F89.out.keep G2.out (fun x=>by cases x)
        obtain⟨⟨o0,o1,o2,o3,o4⟩,oz0,oz1,oz2,oz3,oz4⟩:=cells5 G20
        have hsO9:=lt_of_heap G20
        have HAF9:=HAF.out.keep F89.out (fun x hx=>by cases hx)
        have hdnl:dn.length≤1099511627776:=by
         have h1:=congrArg List.length HDF.out
         rw[List.length_map,renFs_map,List.length_map,List.length_take] at h1
         omega
        have f11:=(Fr.refl [] w10).alloc (.cells (encF ⟨⟨f.lb,f.pr,p9,rt⟩,A',c',B',d'⟩).toArray 44)
        have g11:=heap_new w10 (.cells (encF ⟨⟨f.lb,f.pr,p9,rt⟩,A',c',B',d'⟩).toArray 44)
        have HAFX:=HAF9.keep f11 (fun x hx=>by cases hx)
        have HOW:=Lib.hid HAFX.own
        have HAX:=Lib.hid HAFX
        have HNS:=Lib.hid (World.news_of_block g11)
        have HOB:Hid (∀ b,b<w2.heap.size→some b≠(Value.slice F9 dn.length f9).ownBlock):=Lib.hid (fun b hb e=>by have:=(HAF.out.lo b e.symm).1;omega)
        have HF11:=Lib.hid (F89.out.trans f11)
        have G211:=Lib.hid (f11.keep G20 (fun x=>by cases x))
        have F11:=Lib.hid f11
        have hz10:=World.size_alloc w10 (.cells (encF ⟨⟨f.lb,f.pr,p9,rt⟩,A',c',B',d'⟩).toArray 44)
        have hTy:TyAt (w10.alloc (.cells (encF ⟨⟨f.lb,f.pr,p9,rt⟩,A',c',B',d'⟩).toArray 44)) (fun b=>(okW (w10.alloc (.cells (encF ⟨⟨f.lb,f.pr,p9,rt⟩,A',c',B',d'⟩).toArray 44)) b∧w2.heap.size≤b)∧(Value.slice F9 dn.length f9).ownBlock≠some b) P rt [.int .i64 rt.k,.int .i64 rt.v,.slice A' rt.args.length c',.slice B' rt.fs.length d',.int .i64 rt.rest]:=HT9.out.keep (fun b hb hlt=>⟨⟨⟨okW_fr f11 hb.1 (fun x=>by cases x) hlt,by have:=hb.2;omega⟩,fun e=>by have h1:=(HAF.out.lo b e).2;have:=hb.2;omega⟩,f11.block b hlt (fun x=>by cases x),by rw[World.size_alloc];omega⟩)
        have HTYX:=Lib.hid hTy
        have hO2:T0+1+1<w2.heap.size:=by omega
        clear G20 HAF9 f11 g11 HAFX hTy
        go_wp2_with (at_builtin;refine wpList_append_fp _ rfl _ _ 23 rfl 44 j0 _ 8 104 Tryz.underlying23 HJ.out HY0.out HY1.out HY2.out rfl (by decide) (.slice F9 dn.length f9) dn.length (dn.flatMap encF) rfl HOW.out ⟨w10.heap.size,0,none⟩ 1 1 (encF ⟨⟨f.lb,f.pr,p9,rt⟩,A',c',B',d'⟩) rfl rfl HNS.out (encF_one _) (by simp only[maxLen];omega) (by omega) ?_;intro v9' w9 hown9 hgrow9 hfp9;obtain⟨F8,f8,rfl⟩:=own_sl hown9;have hU9:=(hgrow9.block (T0+1+1) (lt_of_heap G211.out) (HOB.out _ hO2)).trans G211.out;obtain⟨⟨u0,u1,u2,u3,u4⟩,z0,z1,z2,z3,z4⟩:=cells5 hU9;have hsU9:=lt_of_heap hU9)
        have hsx:w2.heap.size≤(w10.alloc (.cells (encF ⟨⟨f.lb,f.pr,p9,rt⟩,A',c',B',d'⟩).toArray 44)).heap.size:=by omega
        have hap:=HAX.out.app (x:=⟨⟨f.lb,f.pr,p9,rt⟩,A',c',B',d'⟩) HLB.out HTYX.out hsx hown9 hgrow9 hfp9
        have fT:Fr [T0+1+1] w9 (w9.setCell ⟨T0+1+1,3,none⟩ (.slice F8 (dn.length+1) f8)):=(Fr.refl [T0+1+1] w9).setCell (p:=⟨T0+1+1,3,none⟩) (.inl (by simp)) _
        have hO9:=(hgrow9.block T0 (lt_of_heap (HF11.out.keep G0.out (fun x=>by cases x))) (HOB.out _ (by omega))).trans (HF11.out.keep G0.out (fun x=>by cases x))
        have hR9:=(hgrow9.block (T0+1) (lt_of_heap (HF11.out.keep G1.out (fun x=>by cases x))) (HOB.out _ (by omega))).trans (HF11.out.keep G1.out (fun x=>by cases x))
        have R0:=Lib.hid (fT.keep hO9 (by simp;omega))
        have R1:=Lib.hid (fT.keep hR9 (by simp))
        have R2:Hid ((w9.setCell ⟨T0+1+1,3,none⟩ (.slice F8 (dn.length+1) f8)).heap[T0+1+1]?=some (.cells #[.int .i64 k,.int .i64 v9,.slice A9 don.length c9,.slice F8 (dn.length+1) f8,.int .i64 0] 27 (0,0))):=Lib.hid (by simp[World.setCell,Array.getElem?_modify,hU9])
        have R3:=Lib.hid (hap.keep fT (fun x hx=>by simp at hx;omega))
        have R4:=Lib.hid (((HF2.out.trans0 HF11.out).grown hgrow9 (fun k e => .inr (HAF.out.lo k e).1)).trans fT)
        have R5:Hid ((dn++[(⟨⟨f.lb,f.pr,p9,rt⟩,A',c',B',d'⟩:FdM)]).map (·.fd)=renFs g (fs.take (i+1))):=Lib.hid (by
         rw[List.take_add_one,HX.out,renFs_map,List.map_append,List.map_append,← renFs_map,← HDF.out,Option.toList_some,List.map_cons,List.map_nil,List.map_cons,List.map_nil,HRF.out])
        clear hap fT hO9 hR9 hown9 hgrow9 hfp9 hU9 u0 u1 u2 u3 u4 z0 z1 z2 z3 z4
        go_roundw
        case rel=>exact⟨i+1,dn++[⟨⟨f.lb,f.pr,p9,rt⟩,A',c',B',d'⟩],F8,f8,by first|rfl|simp|go_num,by omega,R0,R1,by rw[List.length_append,List.length_singleton];exact R2,R5,R3,R4⟩
        case measure=>simp[intOf];omega
     ·have q2:¬ (i:Int)<(fs.length:Int):=by omega
      rw[List.take_of_length_le (by omega)] at HDF
      have hdn:dn.length=fs.length:=by
       have h1:=congrArg List.length HDF.out
       rw[List.length_map,renFs_map,List.length_map] at h1
       exact h1
      obtain⟨r9,hr9⟩:∃ r9,r9=if rest=0 then 0 else g rest:=⟨_,rfl⟩
      have hZZ:Z = .mk k v9 (don.map (·.t)) (dn.map (·.fd)) r9:=by rw[HZ.out,HDN.out,HDF.out,hr9]
      have HZZ:=Lib.hid hZZ
      have HR9:=Lib.hid hr9
      have HFD:=Lib.hid HAF.out.done
      clear hZZ hr9 hlt hdn hdl
      go_upto_if 86 with(fail)
      go_cut [] (fun wx=>Hid (wx.heap[T0+1]?=some (.cells #[.int .i64 0,.int .i64 0,.slice none 0 0,.slice none 0 0,.int .i64 0] 27 (0,0)))∧Hid (wx.heap[T0+1+1]?=some (.cells #[.int .i64 k,.int .i64 v9,.slice A9 don.length c9,.slice F9 dn.length f9,.int .i64 r9] 27 (0,0)))∧Hid (Fr [T0+1+1] wr wx))
      case first=>as_aux_lemma =>
       by_cases h0:rest=0
       ·have g0:¬ 0<rest:=by omega
        have g1:decide (0<rest)=false:=by simp;omega
        have hr:r9=0:=by rw[HR9.out,if_pos h0]
        have HF00:=Lib.hid (Fr.refl [T0+1+1] wr)
        subst hr
        clear h0
        go_wp2_with fail
        go_meet
        exact⟨G1,G2,HF00⟩
       ·have g0:0<rest:=by omega
        have g1:decide (0<rest)=true:=by simp;omega
        have hr:r9=g rest:=by rw[HR9.out,if_neg h0]
        have cN:=Lib.hid (number_any (HXI.out.fr (HW.out.trans HFW.out)) (HYI.out.fr (HW.out.trans HFW.out)) HLM.out hll rest (cx:=cx) (cy:=cy))
        rw[← HG.out,← hr] at cN
        have fO:=(Fr.refl [T0+1+1] wr).setCell (p:=⟨T0+1+1,4,none⟩) (.inl (by simp)) (.int .i64 r9)
        have R1:=Lib.hid (fO.keep G1.out (by simp))
        have R2:Hid ((wr.setCell ⟨T0+1+1,4,none⟩ (.int .i64 r9)).heap[T0+1+1]?=some (.cells #[.int .i64 k,.int .i64 v9,.slice A9 don.length c9,.slice F9 dn.length f9,.int .i64 r9] 27 (0,0))):=Lib.hid (by simp[World.setCell,Array.getElem?_modify,G2.out])
        have R3:=Lib.hid fO
        clear h0 hr fO
        go_wp2_with fail
        refine cN.out.mono ?_
        rintro e w6 ⟨rfl,rfl⟩
        go_wp2_with fail
        go_meet
        exact⟨R1,R2,R3⟩
      case rest =>
       obtain⟨K1,K2,KF⟩:=hcut
       obtain⟨w10,hw10⟩:∃ w10,w10=wc:=⟨_,rfl⟩
       subst hw10
       clear l0 l1 l2 l3 l4 o0 o1 o2 o3 o4 oz0 oz1 oz2 oz3 oz4 hsO hsT
       obtain⟨⟨o0,o1,o2,o3,o4⟩,_⟩:=cells5 K2.out
       obtain⟨⟨l0,l1,l2,l3,l4⟩,lz0,lz1,lz2,lz3,lz4⟩:=cells5 K1.out
       have hk1:=lt_of_heap K1.out
       have hk2:=lt_of_heap K2.out
       have hfr:=st5_fr w10 (T0+1) (.int .i64 k) (.int .i64 v9) (.slice A9 don.length c9) (.slice F9 dn.length f9) (.int .i64 r9)
       have hh:=st5_heap K1.out (.int .i64 k) (.int .i64 v9) (.slice A9 don.length c9) (.slice F9 dn.length f9) (.int .i64 r9)
       have hRR:=(cells5 hh).1
       unfold st5 at hRR
       have HRR:=Lib.hid hRR
       clear hRR
       have hfull:=(KF.out.mono (L':=[T0+1,T0+1+1]) (fun x hx => .inl (by simp at hx;simp[hx]))).trans (hfr.mono (L':=[T0+1,T0+1+1]) (fun x hx => .inl (by simp at hx;simp[hx])))
       have HARF:Hid (ArAt (st5 w10 (T0+1) (.int .i64 k) (.int .i64 v9) (.slice A9 don.length c9) (.slice F9 dn.length f9) (.int .i64 r9)) (fun b=>okW (st5 w10 (T0+1) (.int .i64 k) (.int .i64 v9) (.slice A9 don.length c9) (.slice F9 dn.length f9) (.int .i64 r9)) b∧T0≤b) P (.slice A9 don.length c9) (don.map (·.t))):=Lib.hid (HA.out.keep (fun b hb hlt=>by
        have hf2:=(HF2.out.mono (L':=[T0+1,T0+1+1]) (fun x hx => .inl (by simp at hx;simp[hx]))).trans hfull
        have h2:=hb.2
        have hn:b ∉ [T0+1,T0+1+1]:=by simp;omega
        exact⟨⟨okW_fr hf2 hb.1 hn hlt,by omega⟩,hf2.block b hlt hn,Nat.lt_of_lt_of_le hlt hf2.size⟩))
       have HFSF:Hid (FsAt (st5 w10 (T0+1) (.int .i64 k) (.int .i64 v9) (.slice A9 don.length c9) (.slice F9 dn.length f9) (.int .i64 r9)) (fun b=>okW (st5 w10 (T0+1) (.int .i64 k) (.int .i64 v9) (.slice A9 don.length c9) (.slice F9 dn.length f9) (.int .i64 r9)) b∧T0≤b) P (.slice F9 dn.length f9) (dn.map (·.fd))):=Lib.hid (HFD.out.keep (fun b hb hlt=>by
        have h2:=hb.2
        have hn:b ∉ [T0+1,T0+1+1]:=by simp;omega
        exact⟨⟨okW_fr hfull hb.1 hn hlt,by omega⟩,hfull.block b hlt hn,Nat.lt_of_lt_of_le hlt hfull.size⟩))
       have HFF:Hid (Fr [] W (st5 w10 (T0+1) (.int .i64 k) (.int .i64 v9) (.slice A9 don.length c9) (.slice F9 dn.length f9) (.int .i64 r9))):=Lib.hid (HFW.out.step hfull (fun x hx => .inr (by simp at hx;omega)))
       unfold st5 at HARF HFSF HFF
       clear hfr hh hfull
       go_wp2_with fail
       obtain⟨r0,r1,r2,r3,r4⟩:=HRR.out
       refine bodyPost_ret (v:=.agg #[.int .i64 k,.int .i64 v9,.slice A9 don.length c9,.slice F9 dn.length f9,.int .i64 r9]) ?_ rfl ?_
       ·simp[results,Tryz.f19,go_sem,r0,r1,r2,r3,r4]
       ·have hz:=HZZ.out
        clear HZZ HZ
        cases hz
        refine⟨A9,c9,F9,f9,?_,?_,HFF.out⟩
        ·simp only[List.length_map]
        ·refine TyAt.iff.2 ⟨_,_,rfl,?_,?_⟩
         ·have:=HARF.out;simpa only[List.length_map] using this
         ·have:=HFSF.out;simpa only[List.length_map] using this
theorem rename_all:∀ N,RNC N
 | 0=>by intro _ _ _ _ _ _ _ _ _ _ _ _ _ _ _ _ h;exact absurd h (Nat.not_lt_zero _)
 | N+1=>rename_step N (rename_all N)
end
section
variable [LoB]
attribute [local instance] Ex.no
def upTo(n:Nat):List Int:=(List.range n).map (fun i:Nat=>1+(i:Int))
theorem upTo_succ(n:Nat):upTo (n+1)=upTo n++[1+(n:Int)]:=by unfold upTo;rw[List.range_succ,List.map_append];rfl
theorem upTo_len(n:Nat):(upTo n).length=n:=by simp[upTo]
theorem canon_any{w:World}{ok:Nat→Prop}{P:List UInt8→Prop}{G:Ctx}{t:TyT}{A B:Option Addr}{c d:Nat}(ht:TyAt w ok P t [.int .i64 t.k,.int .i64 t.v,.slice A t.args.length c,.slice B t.fs.length d,.int .i64 t.rest])(wt:WfT G t)(hL:LimT t)(hs:szT t≤5000):
  Calls Tryz.prog 16 #[.agg #[.int .i64 t.k,.int .i64 t.v,.slice A t.args.length c,.slice B t.fs.length d,.int .i64 t.rest]] w fun e w'=>∃ (A':Option Addr) (c':Nat) (B':Option Addr) (d':Nat),e = .returned (.agg #[.int .i64 (canon t).k,.int .i64 (canon t).v,.slice A' (canon t).args.length c',.slice B' (canon t).fs.length d',.int .i64 (canon t).rest])∧
   TyAt w' (fun b=>okW w' b∧w.heap.size≤b) P (canon t) [.int .i64 (canon t).k,.int .i64 (canon t).v,.slice A' (canon t).args.length c',.slice B' (canon t).fs.length d',.int .i64 (canon t).rest]∧Fr [] w w':=by
 have f0:=((Fr.refl [] w).alloc (.cells #[.int .i64 t.k,.int .i64 t.v,.slice A t.args.length c,.slice B t.fs.length d,.int .i64 t.rest] 27)).alloc (.cells #[.int .i64 0,.int .i64 0,.slice none 0 0,.slice none 0 0,.int .i64 0] 27)
 have g0:=heap_old (heap_new w (.cells #[.int .i64 t.k,.int .i64 t.v,.slice A t.args.length c,.slice B t.fs.length d,.int .i64 t.rest] 27)) (.cells #[.int .i64 0,.int .i64 0,.slice none 0 0,.slice none 0 0,.int .i64 0] 27)
 have g1:=heap_new (w.alloc (.cells #[.int .i64 t.k,.int .i64 t.v,.slice A t.args.length c,.slice B t.fs.length d,.int .i64 t.rest] 27)) (.cells #[.int .i64 0,.int .i64 0,.slice none 0 0,.slice none 0 0,.int .i64 0] 27)
 rw[World.size_alloc] at g1
 obtain⟨⟨l0,l1,l2,l3,l4⟩,_⟩:=cells5 g0
 have hs0:=lt_of_heap g0
 have ht2:TyAt ((w.alloc (.cells #[.int .i64 t.k,.int .i64 t.v,.slice A t.args.length c,.slice B t.fs.length d,.int .i64 t.rest] 27)).alloc (.cells #[.int .i64 0,.int .i64 0,.slice none 0 0,.slice none 0 0,.int .i64 0] 27)) (· <((w.alloc (.cells #[.int .i64 t.k,.int .i64 t.v,.slice A t.args.length c,.slice B t.fs.length d,.int .i64 t.rest] 27)).alloc (.cells #[.int .i64 0,.int .i64 0,.slice none 0 0,.slice none 0 0,.int .i64 0] 27)).heap.size) P t [.int .i64 t.k,.int .i64 t.v,.slice A t.args.length c,.slice B t.fs.length d,.int .i64 t.rest]:=ht.keep (fun b _ hlt=>⟨Nat.lt_of_lt_of_le hlt f0.size,f0.block b hlt (fun x=>by cases x),Nat.lt_of_lt_of_le hlt f0.size⟩)
 have cV:=Lib.hid (rvars_all _ ((w.alloc (.cells #[.int .i64 t.k,.int .i64 t.v,.slice A t.args.length c,.slice B t.fs.length d,.int .i64 t.rest] 27)).alloc (.cells #[.int .i64 0,.int .i64 0,.slice none 0 0,.slice none 0 0,.int .i64 0] 27)) ((w.alloc (.cells #[.int .i64 t.k,.int .i64 t.v,.slice A t.args.length c,.slice B t.fs.length d,.int .i64 t.rest] 27)).alloc (.cells #[.int .i64 0,.int .i64 0,.slice none 0 0,.slice none 0 0,.int .i64 0] 27)) _ P t A B none c d 0 [] (Nat.lt_succ_self _) (Nat.le_refl _) (Below.refl _ _) ht2 (AppI.nil _ _) (by simp;omega))
 have hln:=gvT_len t []
 obtain⟨l,hl⟩:∃ l,l=gvT t []:=⟨_,rfl⟩
 rw[← hl] at cV hln
 have hl2:l=varsT t []:=hl.trans (gv_vars wt)
 have hll:l.length≤100000:=by simp at hln;omega
 obtain⟨Z,hZ⟩:∃ Z,Z=canon t:=⟨_,rfl⟩
 rw[← hZ]
 have hZ2:ren (numL l (upTo l.length)) t=Z:=by rw[hZ,hl2];exact canon_num
 obtain⟨T0,hT0⟩:∃ T0,T0=w.heap.size:=⟨_,rfl⟩
 rw[← hT0]
 obtain⟨i1,hi,hz0,hz1,hz2⟩:=info_parts infoInt
 have HI:=Lib.hid hi
 have HZ0:=Lib.hid hz0
 have HZ1:=Lib.hid hz1
 have HZ2:=Lib.hid hz2
 have HT0:=Lib.hid hT0
 have HZ:=Lib.hid hZ2
 have HF0:=Lib.hid f0
 have HG0:=Lib.hid g0
 have HG1:=Lib.hid g1
 have HT:=Lib.hid ht
 have HWT:=Lib.hid wt
 have HLT:=Lib.hid hL
 clear hl hl2 hZ hZ2 hT0 hi hz0 hz1 hz2 f0 g0 g1 ht wt hL ht2 hln hs
 go_enter Tryz.func16,Tryz.ntmps16
 go_wp2_with fail
 generalize (w.alloc (.cells #[.int .i64 t.k,.int .i64 t.v,.slice A t.args.length c,.slice B t.fs.length d,.int .i64 t.rest] 27)).alloc (.cells #[.int .i64 0,.int .i64 0,.slice none 0 0,.slice none 0 0,.int .i64 0] 27)=x at *
 refine cV.out.mono ?_
 rintro e w6 ⟨X,cx,rfl,hst⟩
 have hTT:w.heap.size=T0:=HT0.out.symm
 have f6:Fr [] x w6:=hst.fr.mono (fun x hx=>by have:=oB_mem.1 hx;cases this)
 have HI6:=Lib.hid hst.app.ints
 have HF6:=Lib.hid (HF0.out.trans f6)
 have j0:=f6.keep HG0.out (fun x=>by cases x)
 have j1:=f6.keep HG1.out (fun x=>by cases x)
 rw[hTT] at j0 j1
 have HJ0:=Lib.hid j0
 have HJ1:=Lib.hid j1
 clear l0 l1 l2 l3 l4 hs0 cV hst f6 j0 j1
 rw[hTT]
 have HA0:Hid (AppI w6.heap.size (w6.alloc (.cells #[] 3)) (some ⟨w6.heap.size,0,none⟩) 0 (upTo 0)):=Lib.hid ⟨World.ownsRow_made (base:=0) w6 #[] 0 (Nat.zero_le _) (Nat.zero_le _) rfl,fun g e=>by
  have e:some w6.heap.size=some g:=e
  cases e
  exact⟨Nat.le_refl _,by rw[World.size_alloc];omega⟩⟩
 have HFA:=Lib.hid ((Fr.refl [] w6).alloc (.cells #[] 3))
 go_wp2_with fail
 go_loopw [4,5] (fun tv iv wr=>∃ (i:Nat) (Y:Option Addr) (cy:Nat),tv = .slice Y i cy∧iv = .int .i64 i∧i≤l.length∧Hid (AppI w6.heap.size wr Y cy (upTo i))∧Hid (Fr [] w6 wr)) (fun tv iv wr=>l.length-(intOf iv).toNat)
 case atStart=>exact⟨0,_,0,rfl,rfl,by omega,HA0,HFA⟩
 case round =>
  obtain⟨i,Y,cy,rfl,rfl,hi,HA,HF⟩:=hrel
  have q1:(0:Int)≤(i:Int):=by omega
  have hul:=upTo_len i
  by_cases hlt:i<l.length
  ·have q2:(i:Int)<(l.length:Int):=by omega
   have f8:=(Fr.refl [] wr).alloc (.cells #[.int .i64 ((i:Int)+1)] 3)
   have g8:=heap_new wr (.cells #[.int .i64 ((i:Int)+1)] 3)
   have hA8:=HA.out.keep f8 (fun x hx=>by cases hx)
   have how:=hA8.own
   rw[hul] at how
   have HOW:=Lib.hid how
   have HA8:=Lib.hid hA8
   have HNS:=Lib.hid (World.news_of_block g8)
   have HF8:=Lib.hid (HF.out.trans f8)
   have HUL:=Lib.hid hul
   clear f8 g8 hA8 how hul
   go_wp2_with (at_builtin;refine wpList_append_fp _ rfl _ _ 36 rfl 3 i1 _ 1 8 Tryz.underlying36 HI.out HZ0.out HZ1.out HZ2.out rfl (by decide) (.slice Y i cy) i ((upTo i).map encI) rfl HOW.out ⟨wr.heap.size,0,none⟩ 1 1 [.int .i64 ((i:Int)+1)] rfl rfl HNS.out (by simp[Value.oneCell']) (by simp only[maxLen];omega) (by omega) ?_;intro v9 w9 hown9 hgrow9 hfp9;obtain⟨Y9,c9,rfl⟩:=own_sl hown9)
   have hs9:=HF8.out.size
   have R1:Hid (AppI w6.heap.size w9 Y9 c9 (upTo (i+1))):=Lib.hid (by
    rw[upTo_succ]
    refine HA8.out.app hs9 ?_ ?_
    ·rw[HUL.out,show encI (1+(i:Int))= .int .i64 ((i:Int)+1) by unfold encI;rw[Int.add_comm]];exact hown9
    ·rw[HUL.out];exact hfp9)
   have R2:=Lib.hid (HF8.out.grown hgrow9 (fun k e => .inr ((HA.out.lo k (by rw[HUL.out];exact e)).1)))
   clear hown9 hgrow9 hfp9
   go_roundw
   case rel=>exact⟨i+1,Y9,c9,by first|rfl|simp,by first|rfl|simp|go_num,by omega,R1,R2⟩
   case measure=>simp[intOf];omega
  ·have q2:¬ (i:Int)<(l.length:Int):=by omega
   have hie:i=l.length:=by omega
   subst hie
   have hFw:=HF6.out.trans HF.out
   have k0:=HF.out.keep HJ0.out (fun x=>by cases x)
   have k1:=HF.out.keep HJ1.out (fun x=>by cases x)
   have htr:TyAt wr (· < wr.heap.size) P t [.int .i64 t.k,.int .i64 t.v,.slice A t.args.length c,.slice B t.fs.length d,.int .i64 t.rest]:=HT.out.keep (fun b _ hlt=>⟨Nat.lt_of_lt_of_le hlt hFw.size,hFw.block b hlt (fun x=>by cases x),Nat.lt_of_lt_of_le hlt hFw.size⟩)
   have cR:=Lib.hid (rename_all _ wr wr _ P G t A B X Y c d cx cy l (upTo l.length) (Nat.lt_succ_self _) (Fr.refl [] wr) HWT.out HLT.out (upTo_len _).symm (by omega) (HI6.out.fr HF.out) HA.out.ints htr)
   rw[HZ.out,hul] at cR
   obtain⟨⟨l0,l1,l2,l3,l4⟩,_⟩:=cells5 k0
   have hs0:=lt_of_heap k0
   have hsw:=hFw.size
   have HK1:=Lib.hid k1
   have HFw:=Lib.hid hFw
   clear htr k0 k1 hFw hul
   go_wp2_with fail
   refine cR.out.mono ?_
   rintro e w9 ⟨A',c',B',d',rfl,hty,f9⟩
   have j1:=heap_old (f9.keep HK1.out (fun x=>by cases x)) (.cells #[.int .i64 Z.k,.int .i64 Z.v,.slice A' Z.args.length c',.slice B' Z.fs.length d',.int .i64 Z.rest] 27)
   have j2:=heap_new w9 (.cells #[.int .i64 Z.k,.int .i64 Z.v,.slice A' Z.args.length c',.slice B' Z.fs.length d',.int .i64 Z.rest] 27)
   have fa:=(Fr.refl [] w9).alloc (.cells #[.int .i64 Z.k,.int .i64 Z.v,.slice A' Z.args.length c',.slice B' Z.fs.length d',.int .i64 Z.rest] 27)
   have hfr:=st5_fr (w9.alloc (.cells #[.int .i64 Z.k,.int .i64 Z.v,.slice A' Z.args.length c',.slice B' Z.fs.length d',.int .i64 Z.rest] 27)) (T0+1) (.int .i64 Z.k) (.int .i64 Z.v) (.slice A' Z.args.length c') (.slice B' Z.fs.length d') (.int .i64 Z.rest)
   have hh:=st5_heap j1 (.int .i64 Z.k) (.int .i64 Z.v) (.slice A' Z.args.length c') (.slice B' Z.fs.length d') (.int .i64 Z.rest)
   have hRR:=(cells5 hh).1
   have hs9:=f9.size
   have hk1:=lt_of_heap HK1.out
   have HTY:Hid (TyAt (st5 (w9.alloc (.cells #[.int .i64 Z.k,.int .i64 Z.v,.slice A' Z.args.length c',.slice B' Z.fs.length d',.int .i64 Z.rest] 27)) (T0+1) (.int .i64 Z.k) (.int .i64 Z.v) (.slice A' Z.args.length c') (.slice B' Z.fs.length d') (.int .i64 Z.rest)) (fun b=>okW (st5 (w9.alloc (.cells #[.int .i64 Z.k,.int .i64 Z.v,.slice A' Z.args.length c',.slice B' Z.fs.length d',.int .i64 Z.rest] 27)) (T0+1) (.int .i64 Z.k) (.int .i64 Z.v) (.slice A' Z.args.length c') (.slice B' Z.fs.length d') (.int .i64 Z.rest)) b∧T0≤b) P Z [.int .i64 Z.k,.int .i64 Z.v,.slice A' Z.args.length c',.slice B' Z.fs.length d',.int .i64 Z.rest]):=Lib.hid (hty.keep (fun b hb hlt=>by
    have h2:=hb.2
    have hn:b ∉ [T0+1]:=by simp;omega
    have hok:=okW_fr fa hb.1 (fun x=>by cases x) hlt
    have hlt2:=Nat.lt_of_lt_of_le hlt fa.size
    exact⟨⟨okW_fr hfr hok hn hlt2,by omega⟩,(hfr.block b hlt2 hn).trans (fa.block b hlt (fun x=>by cases x)),Nat.lt_of_lt_of_le hlt2 hfr.size⟩))
   have HFF:Hid (Fr [] w (st5 (w9.alloc (.cells #[.int .i64 Z.k,.int .i64 Z.v,.slice A' Z.args.length c',.slice B' Z.fs.length d',.int .i64 Z.rest] 27)) (T0+1) (.int .i64 Z.k) (.int .i64 Z.v) (.slice A' Z.args.length c') (.slice B' Z.fs.length d') (.int .i64 Z.rest))):=Lib.hid (((HFw.out.trans f9).trans fa).step hfr (fun x hx => .inr (by simp at hx;omega)))
   unfold st5 at hRR HTY HFF
   have HRR:=Lib.hid hRR
   obtain⟨⟨k0,k1,k2,k3,k4⟩,kz0,kz1,kz2,kz3,kz4⟩:=cells5 j1
   obtain⟨⟨u0,u1,u2,u3,u4⟩,_⟩:=cells5 j2
   have hj1:=lt_of_heap j1
   have hj2:=lt_of_heap j2
   have n1:¬ T0+1=w9.heap.size:=by omega
   have n2:¬ w9.heap.size=T0+1:=by omega
   clear hRR hh hfr fa j1 j2 hty f9 cR
   go_wp2_with fail
   obtain⟨r0,r1,r2,r3,r4⟩:=HRR.out
   refine bodyPost_ret (v:=.agg #[.int .i64 Z.k,.int .i64 Z.v,.slice A' Z.args.length c',.slice B' Z.fs.length d',.int .i64 Z.rest]) ?_ rfl ?_
   ·simp[results,Tryz.f16,go_sem,r0,r1,r2,r3,r4]
   ·exact⟨A',c',B',d',rfl,HTY.out,HFF.out⟩
end
end
theorem unify_small{G:Ctx}{A A':Ab}{a b:TyT}{m:Int}{n:Nat}(hA:AOk G ⟨A.s,m,a,b⟩)(hr:Unify n A a b m=some (0,A')):szT (ap A'.s a)≤512∧szT (ap A'.s b)≤512:=by
 obtain⟨G',ad,e⟩:=Unify_same hA hr
 have hg:A'.grown=0:=by
  unfold Unify at hr
  dsimp only at hr
  by_cases c:Ab.grown ⟨A.s,m,a,b⟩≠0
  ·rw[if_pos c] at hr;exact absurd (Prod.mk.inj (Option.some.inj hr)).1 c
  ·rw[if_neg c] at hr
   exact(gr_all n).1 _ _ _ _ hr (Decidable.not_not.1 c) rfl
 have ea:A'.a=a:=ad.ea
 have eb:A'.b=b:=ad.eb
 unfold Ab.grown at hg
 rw[ea,eb] at hg
 split at hg
 ·cases hg
 ·omega
mutual
theorem lim_ren(g:Int→Int):∀ {t:TyT},LimT t→LimT (ren g t)
 | .mk k v args fs rest,h=>by
  rw[LimT] at h
  rw[ren,LimT]
  exact⟨by rw[renTs_map,List.length_map];exact h.1,by rw[renFs_map,List.length_map];exact h.2.1,limTs_ren g h.2.2.1,limFs_ren g h.2.2.2⟩
theorem limTs_ren(g:Int→Int):∀ {t:List TyT},LimTs t→LimTs (renTs g t)
 | [],_=>trivial
 | x::l,h=>by rw[LimTs] at h;rw[renTs,LimTs];exact⟨lim_ren g h.1,limTs_ren g h.2⟩
theorem limFs_ren(g:Int→Int):∀ {t:List Fd},LimFs t→LimFs (renFs g t)
 | [],_=>trivial
 | x::l,h=>by rw[LimFs] at h;rw[renFs,LimFs];exact⟨limF_ren g h.1,limFs_ren g h.2⟩
theorem limF_ren(g:Int→Int):∀ {t:Fd},LimF t→LimF (renF g t)
 | ⟨lb,pr,p,t⟩,h=>by rw[LimF] at h;rw[renF,LimF];exact lim_ren g h
end
theorem lim_canon{t:TyT}(h:LimT t):LimT (canon t):=by rw[← canon_num];exact lim_ren _ h
mutual
theorem ren_vt{P:Int→Prop}{g:Int→Int}:∀ {t:TyT},VT (fun u=>P (g u)) t→VT P (ren g t)
 | .mk k v args fs rest,h=>by
  rw[VT] at h
  rw[ren,VT]
  refine⟨fun c=>?_,rens_vt h.2.1,renf_vt h.2.2.1,fun c=>?_⟩
  ·rw[if_pos c];exact h.1 c
  ·by_cases r:rest=0
   ·rw[if_pos r] at c;exact absurd rfl c
   ·rw[if_neg r];exact h.2.2.2 r
theorem rens_vt{P:Int→Prop}{g:Int→Int}:∀ {t:List TyT},VTs (fun u=>P (g u)) t→VTs P (renTs g t)
 | [],_=>trivial
 | x::l,h=>by rw[VTs] at h;rw[renTs,VTs];exact⟨ren_vt h.1,rens_vt h.2⟩
theorem renf_vt{P:Int→Prop}{g:Int→Int}:∀ {t:List Fd},VFs (fun u=>P (g u)) t→VFs P (renFs g t)
 | [],_=>trivial
 | x::l,h=>by rw[VFs] at h;rw[renFs,VFs];exact⟨ren1_vt h.1,renf_vt h.2⟩
theorem ren1_vt{P:Int→Prop}{g:Int→Int}:∀ {t:Fd},VF (fun u=>P (g u)) t→VF P (renF g t)
 | ⟨lb,pr,p,t⟩,h=>by
  rw[VF] at h
  rw[renF,VF]
  exact⟨fun c=>by rw[if_pos c];exact h.1 c,ren_vt h.2⟩
end
theorem names_le{l:List Int}(hn:l.Nodup){u:Int}(hu:u ∈ l):numL l (toL l.length) u≤3 *(l.length:Int):=by
 obtain⟨i,hi⟩:=List.getElem?_of_mem hu
 have hl:=(List.getElem?_eq_some_iff.1 hi).1
 have h1:=numL_at (m:=toL l.length) hn (toL_len _).symm hi
 rw[toL_at hl] at h1
 have:=Option.some.inj h1
 omega
theorem names_all{G:Ctx}{a b:TyT}{l:List Int}(hl:l=varsT (fnT a b) [])(hn:l.Nodup)(hll:l.length≤100000)(hp:Pos G)(hr:Rise G)(wa:WfT G a)(wb:WfT G b)(hs:∀ u,G u≠.no→u ∈ varsT (fnT a b) []):
  ∃ H:Ctx,AOk H ⟨.one,seenT (ren (numL l (toL l.length)) b) (seenT (ren (numL l (toL l.length)) a) 0),ren (numL l (toL l.length)) a,ren (numL l (toL l.length)) b⟩∧(∀ u,G u≠.no→H (numL l (toL l.length) u)=G u)∧(∀ u v,G u≠.no→G v≠.no→numL l (toL l.length) u=numL l (toL l.length) v→u=v)∧NZ (numL l (toL l.length))∧seenT (ren (numL l (toL l.length)) b) (seenT (ren (numL l (toL l.length)) a) 0)≤300000:=by
 obtain⟨h1,h2,h3⟩:=names_to hn
 rw[← hl] at hs
 obtain⟨_,k2,k3,k4⟩:=names_ready hl hp hr wa wb hs h1 h2 h3
 refine⟨_,k2,k3,k4,h3,?_⟩
 have hv:=vars_in (fnT a b) []
 rw[← hl] at hv
 unfold fnT at hv
 rw[VT,VTs,VTs,VTs] at hv
 have bd:∀ u,u ∈ l→numL l (toL l.length) u≤300000:=fun u hu=>by have:=names_le hn hu;omega
 exact seen_bd (by decide) k2.wb (ren_vt (vt_mono bd hv.2.1.2.1)) (seen_bd (by decide) k2.wa (ren_vt (vt_mono bd hv.2.1.1)) (by decide))
section
attribute [local go_sem ↓] Go.wp_at_zero Go.wp_at_succ
section
variable [LoB]
attribute [local instance] Ex.no
theorem sol_notQ{w:World}{P:List UInt8→Prop}{Q:Nat}{M0 M1 M2:Option Nat}{G:Ctx}{R:Raw}{s:Sub}{m:Int}{ta tb:TyT}(h:SolW w P Q M0 M1 M2 G R s m ta tb):∀ x ∈ [Q],¬ okW w x:=fun x hx=>by
 simp at hx;rw[hx];exact(h.at_.not_ok Q (by simp[solL])).1
theorem and5{a b c d e r:Prop}(h:a∧b∧c∧d∧e)(k:r):a∧b∧c∧d∧e∧r:=⟨h.1,h.2.1,h.2.2.1,h.2.2.2.1,h.2.2.2.2,k⟩
end
section
variable [LoB]
attribute [local instance] Ex.no
def toP(n i:Nat):List Int:=(List.range i).map (fun i:Nat=>3 *(n:Int)-2 *(i:Int))
theorem toP_succ(n i:Nat):toP n (i+1)=toP n i++[3 *(n:Int)-2 *(i:Int)]:=by unfold toP;rw[List.range_succ,List.map_append];rfl
theorem toP_len(n i:Nat):(toP n i).length=i:=by simp[toP]
theorem RowNames_walk{W:World}(hlo:LoB.lo=W.heap.size){a b:TyT}{A B A' B':Option Addr}{c d c' d':Nat}{P0:List UInt8→Prop}(ta:TyAt W (okW W) P0 a [.int .i64 a.k,.int .i64 a.v,.slice A a.args.length c,.slice B a.fs.length d,.int .i64 a.rest])(tb:TyAt W (okW W) P0 b [.int .i64 b.k,.int .i64 b.v,.slice A' b.args.length c',.slice B' b.fs.length d',.int .i64 b.rest]):
  Calls Tryz.prog 5 #[.agg #[.int .i64 a.k,.int .i64 a.v,.slice A a.args.length c,.slice B a.fs.length d,.int .i64 a.rest],.agg #[.int .i64 b.k,.int .i64 b.v,.slice A' b.args.length c',.slice B' b.fs.length d',.int .i64 b.rest]] W fun e w'=>e = .returned (.bool true)∧Fr [] W w':=by
 have f0:=((Fr.refl [] W).alloc (.cells #[.int .i64 a.k,.int .i64 a.v,.slice A a.args.length c,.slice B a.fs.length d,.int .i64 a.rest] 27)).alloc (.cells #[.int .i64 b.k,.int .i64 b.v,.slice A' b.args.length c',.slice B' b.fs.length d',.int .i64 b.rest] 27)
 have g0:=heap_old (heap_new W (.cells #[.int .i64 a.k,.int .i64 a.v,.slice A a.args.length c,.slice B a.fs.length d,.int .i64 a.rest] 27)) (.cells #[.int .i64 b.k,.int .i64 b.v,.slice A' b.args.length c',.slice B' b.fs.length d',.int .i64 b.rest] 27)
 have g1:=heap_new (W.alloc (.cells #[.int .i64 a.k,.int .i64 a.v,.slice A a.args.length c,.slice B a.fs.length d,.int .i64 a.rest] 27)) (.cells #[.int .i64 b.k,.int .i64 b.v,.slice A' b.args.length c',.slice B' b.fs.length d',.int .i64 b.rest] 27)
 rw[World.size_alloc] at g1
 obtain⟨⟨l0,l1,l2,l3,l4⟩,_⟩:=cells5 g0
 obtain⟨⟨k0,k1,k2,k3,k4⟩,_⟩:=cells5 g1
 have ls:=lt_of_heap g0
 have ks:=lt_of_heap g1
 have JA:=Lib.hid g0
 have JB:=Lib.hid g1
 have HF0:=Lib.hid f0
 have TA:=Lib.hid ta
 have TB:=Lib.hid tb
 have hs0:=f0.size
 clear f0 g0 g1 ta tb
 go_enter Tryz.func5,Tryz.ntmps5
 go_wp2_with fail
 refine(lawake_any (by omega)).mono ?_
 rintro e w1 ⟨rfl,f1⟩
 have JAn:=f1.keep JA.out (fun x=>by cases x)
 have JBn:=f1.keep JB.out (fun x=>by cases x)
 clear l0 l1 l2 l3 l4 ls JA k0 k1 k2 k3 k4 ks JB
 have JA:=Lib.hid JAn
 clear JAn
 obtain⟨⟨l0,l1,l2,l3,l4⟩,_⟩:=cells5 JA.out
 have ls:=lt_of_heap JA.out
 have JB:=Lib.hid JBn
 clear JBn
 obtain⟨⟨k0,k1,k2,k3,k4⟩,_⟩:=cells5 JB.out
 have ks:=lt_of_heap JB.out
 have HF1:=Lib.hid (HF0.out.trans f1)
 clear f1
 go_wp2_with fail
 refine(lsmall_any HF1.out TA.out).mono ?_
 rintro e w2 ⟨q1,rfl,hq1,f2⟩
 have JAn:=f2.keep JA.out (fun x=>by cases x)
 have JBn:=f2.keep JB.out (fun x=>by cases x)
 clear l0 l1 l2 l3 l4 ls JA k0 k1 k2 k3 k4 ks JB
 have JA:=Lib.hid JAn
 clear JAn
 obtain⟨⟨l0,l1,l2,l3,l4⟩,_⟩:=cells5 JA.out
 have ls:=lt_of_heap JA.out
 have JB:=Lib.hid JBn
 clear JBn
 obtain⟨⟨k0,k1,k2,k3,k4⟩,_⟩:=cells5 JB.out
 have ks:=lt_of_heap JB.out
 have HF2:=Lib.hid (HF1.out.trans f2)
 clear f2
 cases q1 with
 | false =>
  go_wp2_with fail
  go_ret
  exact⟨rfl,HF2.out⟩
 | true =>
 obtain⟨sa,va⟩:=hq1 rfl
 have VA:=Lib.hid va
 clear hq1 va
 go_wp2_with fail
 refine(lsmall_any HF2.out TB.out).mono ?_
 rintro e w3 ⟨q2,rfl,hq2,f3⟩
 have JAn:=f3.keep JA.out (fun x=>by cases x)
 have JBn:=f3.keep JB.out (fun x=>by cases x)
 clear l0 l1 l2 l3 l4 ls JA k0 k1 k2 k3 k4 ks JB
 have JA:=Lib.hid JAn
 clear JAn
 obtain⟨⟨l0,l1,l2,l3,l4⟩,_⟩:=cells5 JA.out
 have ls:=lt_of_heap JA.out
 have JB:=Lib.hid JBn
 clear JBn
 obtain⟨⟨k0,k1,k2,k3,k4⟩,_⟩:=cells5 JB.out
 have ks:=lt_of_heap JB.out
 have HF3:=Lib.hid (HF2.out.trans f3)
 clear f3
 cases q2 with
 | false =>
  go_wp2_with fail
  go_ret
  exact⟨rfl,HF3.out⟩
 | true =>
 obtain⟨sb,vb⟩:=hq2 rfl
 have VB:=Lib.hid vb
 clear hq2 vb
 go_wp2_with fail
 refine(ltogether_any (TA.out.keep (sh0 HF3.out)) (TB.out.keep (sh0 HF3.out)) sa sb).mono ?_
 rintro e w4 ⟨q3,rfl,hq3,f4⟩
 have JAn:=f4.keep JA.out (fun x=>by cases x)
 have JBn:=f4.keep JB.out (fun x=>by cases x)
 clear l0 l1 l2 l3 l4 ls JA k0 k1 k2 k3 k4 ks JB
 have JA:=Lib.hid JAn
 clear JAn
 obtain⟨⟨l0,l1,l2,l3,l4⟩,_⟩:=cells5 JA.out
 have ls:=lt_of_heap JA.out
 have JB:=Lib.hid JBn
 clear JBn
 obtain⟨⟨k0,k1,k2,k3,k4⟩,_⟩:=cells5 JB.out
 have ks:=lt_of_heap JB.out
 have HF4:=Lib.hid (HF3.out.trans f4)
 have hk4:=ks
 clear f4
 cases q3 with
 | false =>
  go_wp2_with fail
  go_ret
  exact⟨rfl,HF4.out⟩
 | true =>
 obtain⟨G,hp,hr,wa,wb,hok,hbd,hsup⟩:=mayG_fn (hq3 rfl) VA.out VB.out
 have hfew:=few_two wa wb sa sb
 have TA2:=Lib.hid (TA.out.labs (Q:=(· ∈ labT a++labT b)) (fun x hx=>List.mem_append_left _ hx))
 have TB2:=Lib.hid (TB.out.labs (Q:=(· ∈ labT a++labT b)) (fun x hx=>List.mem_append_right _ hx))
 have HP:=Lib.hid hp
 have HR:=Lib.hid hr
 have WA:=Lib.hid wa
 have WB:=Lib.hid wb
 have HOK:=Lib.hid hok
 have HBD:=Lib.hid hbd
 have HSUP:=Lib.hid hsup
 have HFEW:=Lib.hid hfew
 clear hq3 hp hr wa wb hok hbd hsup hfew TA TB VA VB
 go_wp2_with fail
 refine(lfun_any (TA2.out.keep (sh0 HF4.out)) (TB2.out.keep (sh0 HF4.out))).mono ?_
 rintro e w5 ⟨X0,rfl,htf,f5⟩
 have JAn:=f5.keep JA.out (fun x=>by cases x)
 have JBn:=f5.keep JB.out (fun x=>by cases x)
 clear l0 l1 l2 l3 l4 ls JA k0 k1 k2 k3 k4 ks JB
 have JA:=Lib.hid JAn
 clear JAn
 obtain⟨⟨l0,l1,l2,l3,l4⟩,_⟩:=cells5 JA.out
 have ls:=lt_of_heap JA.out
 have JB:=Lib.hid JBn
 clear JBn
 obtain⟨⟨k0,k1,k2,k3,k4⟩,_⟩:=cells5 JB.out
 have ks:=lt_of_heap JB.out
 have HF5:=Lib.hid (HF4.out.trans f5)
 have hs4:=HF4.out.size
 have hs45:=f5.size
 have htf2:TyAt w5 (· < w5.heap.size) (· ∈ labT a++labT b) (fnT a b) [.int .i64 7,.int .i64 0,.slice X0 2 2,.slice none 0 0,.int .i64 0]:=htf.keep (fun b hb hlt=>⟨hlt,rfl,hlt⟩)
 have hsf:szT (fnT a b)≤5000:=by unfold fnT;simp only[szT,szTs,szFs];omega
 have hwf:WfT G (fnT a b):=wf_fnT.2 ⟨WA.out,WB.out⟩
 have cV:=Lib.hid (rvars_all _ w5 w5 w5.heap.size (· ∈ labT a++labT b) (fnT a b) X0 none none 2 0 0 [] (Nat.lt_succ_self _) (Nat.le_refl _) (Below.refl _ _) htf2 (AppI.nil _ _) (by simp;omega))
 have hln:=gvT_len (fnT a b) []
 have hnd:=gvT_nd (fnT a b) (l:=[]) List.nodup_nil
 obtain⟨l,hl⟩:∃ l,l=gvT (fnT a b) []:=⟨_,rfl⟩
 rw[← hl] at cV hln
 have hl2:l=varsT (fnT a b) []:=hl.trans (gv_vars hwf)
 have hll:l.length≤100000:=by simp at hln;omega
 rw[← hl2] at hnd
 have HL2:=Lib.hid hl2
 have HND:=Lib.hid hnd
 clear hl hl2 hnd hln htf htf2 f5 hsf hwf
 go_wp2_with fail
 refine cV.out.mono ?_
 rintro e w6 ⟨XL,cx,rfl,hst⟩
 have f6:Fr [] w5 w6:=hst.fr.mono (fun x hx=>by have:=oB_mem.1 hx;cases this)
 have HI6:=Lib.hid hst.app.ints
 have JAn:=f6.keep JA.out (fun x=>by cases x)
 have JBn:=f6.keep JB.out (fun x=>by cases x)
 clear l0 l1 l2 l3 l4 ls JA k0 k1 k2 k3 k4 ks JB
 have JA:=Lib.hid JAn
 clear JAn
 obtain⟨⟨l0,l1,l2,l3,l4⟩,_⟩:=cells5 JA.out
 have ls:=lt_of_heap JA.out
 have JB:=Lib.hid JBn
 clear JBn
 obtain⟨⟨k0,k1,k2,k3,k4⟩,_⟩:=cells5 JB.out
 have ks:=lt_of_heap JB.out
 have HF6:=Lib.hid (HF5.out.trans f6)
 have hs6:=f6.size
 clear f6 hst cV
 obtain⟨i1,hi,hz0,hz1,hz2⟩:=info_parts infoInt
 have HI:=Lib.hid hi
 have HZ0:=Lib.hid hz0
 have HZ1:=Lib.hid hz1
 have HZ2:=Lib.hid hz2
 clear hi hz0 hz1 hz2
 have HA0:Hid (AppI w6.heap.size (w6.alloc (.cells #[] 3)) (some ⟨w6.heap.size,0,none⟩) 0 (toP l.length 0)):=Lib.hid ⟨World.ownsRow_made (base:=0) w6 #[] 0 (Nat.zero_le _) (Nat.zero_le _) rfl,fun g e=>by
  have e:some w6.heap.size=some g:=e
  cases e
  exact⟨Nat.le_refl _,by rw[World.size_alloc];omega⟩⟩
 have HFA:=Lib.hid ((Fr.refl [] w6).alloc (.cells #[] 3))
 go_wp2_with fail
 go_loopw [6,36] (fun tv iv wr=>∃ (i:Nat) (Y:Option Addr) (cy:Nat),tv = .slice Y i cy∧iv = .int .i64 i∧i≤l.length∧Hid (AppI w6.heap.size wr Y cy (toP l.length i))∧Hid (Fr [] w6 wr)) (fun tv iv wr=>l.length-(intOf iv).toNat)
 case atStart=>exact⟨0,_,0,rfl,rfl,by omega,HA0,HFA⟩
 case round =>
  obtain⟨i,Y,cy,rfl,rfl,hi,HA,HF⟩:=hrel
  have q1:(0:Int)≤(i:Int):=by omega
  have hul:=toP_len l.length i
  by_cases hlt:i<l.length
  ·have q2:(i:Int)<(l.length:Int):=by omega
   have f8:=(Fr.refl [] wr).alloc (.cells #[.int .i64 (3 *(l.length:Int)-2 *(i:Int))] 3)
   have g8:=heap_new wr (.cells #[.int .i64 (3 *(l.length:Int)-2 *(i:Int))] 3)
   have hA8:=HA.out.keep f8 (fun x hx=>by cases hx)
   have how:=hA8.own
   rw[hul] at how
   have HOW:=Lib.hid how
   have HA8:=Lib.hid hA8
   have HNS:=Lib.hid (World.news_of_block g8)
   have HF8:=Lib.hid (HF.out.trans f8)
   have HUL:=Lib.hid hul
   clear f8 g8 hA8 how hul
   go_wp2_with (at_builtin;refine wpList_append_fp _ rfl _ _ 36 rfl 3 i1 _ 1 8 Tryz.underlying36 HI.out HZ0.out HZ1.out HZ2.out rfl (by decide) (.slice Y i cy) i ((toP l.length i).map encI) rfl HOW.out ⟨wr.heap.size,0,none⟩ 1 1 [.int .i64 (3 *(l.length:Int)-2 *(i:Int))] rfl rfl HNS.out (by simp[Value.oneCell']) (by simp only[maxLen];omega) (by omega) ?_;intro v9 w9 hown9 hgrow9 hfp9;obtain⟨Y9,c9,rfl⟩:=own_sl hown9)
   have hs9:=HF8.out.size
   have R1:Hid (AppI w6.heap.size w9 Y9 c9 (toP l.length (i+1))):=Lib.hid (by
    rw[toP_succ]
    refine HA8.out.app hs9 ?_ ?_
    ·rw[HUL.out];exact hown9
    ·rw[HUL.out];exact hfp9)
   have R2:=Lib.hid (HF8.out.grown hgrow9 (fun k e => .inr ((HA.out.lo k (by rw[HUL.out];exact e)).1)))
   clear hown9 hgrow9 hfp9
   go_roundw
   case rel=>exact⟨i+1,Y9,c9,by first|rfl|simp,by first|rfl|simp|go_num,by omega,R1,R2⟩
   case measure=>simp[intOf];omega
  ·have q2:¬ (i:Int)<(l.length:Int):=by omega
   have hie:i=l.length:=by omega
   subst hie
   clear hi q1 q2 hlt HA0 HFA
   have HTO:Hid (IntsAt wr Y (toL l.length)):=Lib.hid HA.out.ints
   have HLI:=Lib.hid (HI6.out.fr HF.out)
   have f7:=HF.out
   have JAn:=f7.keep JA.out (fun x=>by cases x)
   have JBn:=f7.keep JB.out (fun x=>by cases x)
   clear l0 l1 l2 l3 l4 ls JA k0 k1 k2 k3 k4 ks JB
   have JA:=Lib.hid JAn
   clear JAn
   obtain⟨⟨l0,l1,l2,l3,l4⟩,_⟩:=cells5 JA.out
   have ls:=lt_of_heap JA.out
   have JB:=Lib.hid JBn
   clear JBn
   obtain⟨⟨k0,k1,k2,k3,k4⟩,_⟩:=cells5 JB.out
   have ks:=lt_of_heap JB.out
   have HF7:=Lib.hid (HF6.out.trans f7)
   have hs7r:=f7.size
   clear f7 HI6 HA HF
   obtain⟨H,hokH,hhg,hig,nz,hbdH⟩:=names_all HL2.out HND.out hll HP.out HR.out WA.out WB.out HSUP.out
   have cA:=fun(Z:World) (f:Fr [] W Z) (f':Fr [] wr Z)=>Lib.hid (rename_all _ Z Z _ _ G a A B XL Y c d cx cy l (toL l.length) (Nat.lt_succ_self _) (Fr.refl [] Z) WA.out (lim_of HFEW.out TA2.out WA.out) (toL_len _).symm (by omega) (HLI.out.fr f') (HTO.out.fr f') (TA2.out.keep (sh0 f)))
   have cB:=fun(Z:World) (f:Fr [] W Z) (f':Fr [] wr Z)=>Lib.hid (rename_all _ Z Z _ _ G b A' B' XL Y c' d' cx cy l (toL l.length) (Nat.lt_succ_self _) (Fr.refl [] Z) WB.out (lim_of HFEW.out TB2.out WB.out) (toL_len _).symm (by omega) (HLI.out.fr f') (HTO.out.fr f') (TB2.out.keep (sh0 f)))
   rw[toL_len] at cA cB
   obtain⟨g,hg⟩:∃ g,g=numL l (toL l.length):=⟨_,rfl⟩
   rw[← hg] at hokH hhg hig nz hbdH cA cB
   obtain⟨ca,hca⟩:∃ ca,ca=ren g a:=⟨_,rfl⟩
   obtain⟨cb,hcb⟩:∃ cb,cb=ren g b:=⟨_,rfl⟩
   rw[← hca] at hokH hbdH cA
   rw[← hcb] at hokH hbdH cB
   have HCA:=Lib.hid hca
   have HCB:=Lib.hid hcb
   clear hca hcb
   have HOKH:=Lib.hid hokH
   have HHG:=Lib.hid hhg
   have HIG:=Lib.hid hig
   have HNZ:=Lib.hid nz
   have HBDH:=Lib.hid hbdH
   clear hokH hhg hig nz hbdH hg
   have hs7:=HF7.out.size
   go_wp2_with fail
   refine(sv_New _ (by omega)).mono ?_
   rintro e w8 ⟨Q,rfl,hQ,f8,hS⟩
   have S8:=Lib.hid (hS G _ HP.out HR.out HFEW.out)
   have JAn:=f8.keep JA.out (fun x=>by cases x)
   have JBn:=f8.keep JB.out (fun x=>by cases x)
   clear l0 l1 l2 l3 l4 ls JA k0 k1 k2 k3 k4 ks JB
   have JA:=Lib.hid JAn
   clear JAn
   obtain⟨⟨l0,l1,l2,l3,l4⟩,_⟩:=cells5 JA.out
   have ls:=lt_of_heap JA.out
   have JB:=Lib.hid JBn
   clear JBn
   obtain⟨⟨k0,k1,k2,k3,k4⟩,_⟩:=cells5 JB.out
   have ks:=lt_of_heap JB.out
   have HF8:=Lib.hid (HF7.out.trans f8)
   have R8:=Lib.hid f8
   have hs8:=HF8.out.size
   have hq8:=S8.out.at_.lt
   clear f8 hS
   go_wp2_with fail
   refine(sv_New _ (by omega)).mono ?_
   rintro e w9 ⟨Q2,rfl,hQ2,f9,hS⟩
   have S9:=Lib.hid (S8.out.fr f9)
   have U9:=Lib.hid (hS H _ HOKH.out.pos HOKH.out.ri HFEW.out)
   have JAn:=f9.keep JA.out (fun x=>by cases x)
   have JBn:=f9.keep JB.out (fun x=>by cases x)
   clear l0 l1 l2 l3 l4 ls JA k0 k1 k2 k3 k4 ks JB
   have JA:=Lib.hid JAn
   clear JAn
   obtain⟨⟨l0,l1,l2,l3,l4⟩,_⟩:=cells5 JA.out
   have ls:=lt_of_heap JA.out
   have JB:=Lib.hid JBn
   clear JBn
   obtain⟨⟨k0,k1,k2,k3,k4⟩,_⟩:=cells5 JB.out
   have ks:=lt_of_heap JB.out
   have HF9:=Lib.hid (HF8.out.trans f9)
   have R9:=Lib.hid (R8.out.trans f9)
   have hq9:=U9.out.at_.lt
   have hs89:=f9.size
   clear f9 hS S8
   go_wp2_with fail
   obtain⟨n,r,hn,hc⟩:=sv_Unify S9.out HOK.out (by have:=HBD.out;omega) (TA2.out.keep (sh0 HF9.out)) (TB2.out.keep (sh0 HF9.out))
   refine hc.mono ?_
   rintro e w10 ⟨rfl,h10,hx⟩
   have h10q:Fr [Q] w9 w10:=h10
   have U10:=Lib.hid (U9.out.beside h10q (fun x hx=>by simp at hx;rw[hx];exact(S9.out.at_.not_ok Q (by simp[solL])).1) (fun x hx=>by simp[solL] at hx;simp;omega))
   have JAn:=h10q.keep JA.out (by simp;omega)
   have JBn:=h10q.keep JB.out (by simp;omega)
   clear l0 l1 l2 l3 l4 ls JA k0 k1 k2 k3 k4 ks JB
   have JA:=Lib.hid JAn
   clear JAn
   obtain⟨⟨l0,l1,l2,l3,l4⟩,_⟩:=cells5 JA.out
   have ls:=lt_of_heap JA.out
   have JB:=Lib.hid JBn
   clear JBn
   obtain⟨⟨k0,k1,k2,k3,k4⟩,_⟩:=cells5 JB.out
   have ks:=lt_of_heap JB.out
   have HF10:=Lib.hid (HF9.out.step h10q (fun x hx => .inr (by simp at hx;omega)))
   have R10:=Lib.hid (R9.out.step h10q (fun x hx => .inr (by simp at hx;omega)))
   have HN:=Lib.hid hn
   have HX:=Lib.hid hx
   have hs10:=h10q.size
   clear hn hc hx h10 h10q
   go_wp2_with fail
   refine(cA _ HF10.out R10.out).out.mono ?_
   rintro e w11 ⟨A3,c3,B3,d3,rfl,ht3,f11⟩
   have f12:=f11.alloc (.cells #[.int .i64 ca.k,.int .i64 ca.v,.slice A3 ca.args.length c3,.slice B3 ca.fs.length d3,.int .i64 ca.rest] 27)
   have g12:=heap_new w11 (.cells #[.int .i64 ca.k,.int .i64 ca.v,.slice A3 ca.args.length c3,.slice B3 ca.fs.length d3,.int .i64 ca.rest] 27)
   have fb:=(Fr.refl [] w11).alloc (.cells #[.int .i64 ca.k,.int .i64 ca.v,.slice A3 ca.args.length c3,.slice B3 ca.fs.length d3,.int .i64 ca.rest] 27)
   go_upto_region 16 with(fail)
   have hT2:=lt_of_heap g12
   have JAn:=f12.keep JA.out (fun x=>by cases x)
   have JBn:=f12.keep JB.out (fun x=>by cases x)
   clear l0 l1 l2 l3 l4 ls JA k0 k1 k2 k3 k4 ks JB
   have JA:=Lib.hid JAn
   clear JAn
   obtain⟨⟨l0,l1,l2,l3,l4⟩,_⟩:=cells5 JA.out
   have ls:=lt_of_heap JA.out
   have JB:=Lib.hid JBn
   clear JBn
   obtain⟨⟨k0,k1,k2,k3,k4⟩,_⟩:=cells5 JB.out
   have ks:=lt_of_heap JB.out
   generalize hW12:w11.alloc (.cells #[.int .i64 ca.k,.int .i64 ca.v,.slice A3 ca.args.length c3,.slice B3 ca.fs.length d3,.int .i64 ca.rest] 27)=w12 at *
   have JX:=Lib.hid g12
   have HF12:=Lib.hid (HF10.out.trans f12)
   have R12:=Lib.hid (R10.out.trans f12).drew
   have F12:=Lib.hid f12.drew
   have U12:=Lib.hid ((U10.out.fr f12).fr (Fr.refl [] w12).drew)
   have TC12:=Lib.hid (ht3.keep (w':=w12.drew) (ok':=okW w12.drew) (fun b hb hlt=>sh0 (fb.trans (Fr.refl [] w12).drew) b hb.1 hlt))
   have hs11:=f11.size
   generalize hT2e:w11.heap.size=T2 at *
   clear f11 f12 g12 fb ht3 hW12 U10
   generalize hB0:W.heap.size=T0 at *
   have JA8:w12.drew.heap[T0]?=some (.cells #[.int .i64 a.k,.int .i64 a.v,.slice A a.args.length c,.slice B a.fs.length d,.int .i64 a.rest] 27):=JA.out
   have JB8:w12.drew.heap[T0+1]?=some (.cells #[.int .i64 b.k,.int .i64 b.v,.slice A' b.args.length c',.slice B' b.fs.length d',.int .i64 b.rest] 27):=JB.out
   have JX8:w12.drew.heap[T2]?=some (.cells #[.int .i64 ca.k,.int .i64 ca.v,.slice A3 ca.args.length c3,.slice B3 ca.fs.length d3,.int .i64 ca.rest] 27):=JX.out
   have D8:=HF12.out.drew
   have N0:=and5 (cells5 JA8).1 (and5 (cells5 JB8).1 (cells5 JX8).1)
   have hQ2T:Q2<T2:=by omega
   have cN:=fun(n2:Nat) (r2:Int×Ab) (h:Unify n2 ⟨.one,0,.zero,.zero⟩ ca cb (seenT cb (seenT ca 0))=some r2)=>(show r.1=r2.1∧(r.1=0→canon (ap r2.2.s ca)=canon (ap r.2.s a)) by
    have hH:=HOKH.out
    rw[HCA.out,HCB.out] at h hH
    rw[HCA.out]
    exact unify_names (A:=⟨.one,0,.zero,.zero⟩) (B:=⟨.one,0,.zero,.zero⟩) rfl rfl HOK.out hH HNZ.out HHG.out HIG.out HN.out h)
   have hT0Q:T0+1<Q2:=by omega
   go_region_held3 (fun w'=>w'.cell? ⟨T0,0,none⟩=some (.int .i64 a.k)∧w'.cell? ⟨T0,1,none⟩=some (.int .i64 a.v)∧w'.cell? ⟨T0,2,none⟩=some (.slice A a.args.length c)∧w'.cell? ⟨T0,3,none⟩=some (.slice B a.fs.length d)∧w'.cell? ⟨T0,4,none⟩=some (.int .i64 a.rest)∧w'.cell? ⟨T0+1,0,none⟩=some (.int .i64 b.k)∧w'.cell? ⟨T0+1,1,none⟩=some (.int .i64 b.v)∧w'.cell? ⟨T0+1,2,none⟩=some (.slice A' b.args.length c')∧w'.cell? ⟨T0+1,3,none⟩=some (.slice B' b.fs.length d')∧w'.cell? ⟨T0+1,4,none⟩=some (.int .i64 b.rest)∧w'.cell? ⟨T2,0,none⟩=some (.int .i64 ca.k)∧w'.cell? ⟨T2,1,none⟩=some (.int .i64 ca.v)∧w'.cell? ⟨T2,2,none⟩=some (.slice A3 ca.args.length c3)∧w'.cell? ⟨T2,3,none⟩=some (.slice B3 ca.fs.length d3)∧w'.cell? ⟨T2,4,none⟩=some (.int .i64 ca.rest)) (first|go_keep|exact N0|exact N1|exact N2)
    ((first | ((with_reducible refine (cB _ D8 R12.out).out.mono ?_); rintro e z1 ⟨A4, c4, B4, d4, rfl, ht4, e1⟩; have D1 := D8.trans e1; have E1 := F12.out.trans e1; have JA1 := e1.keep JA8 (fun hx => by cases hx); have JB1 := e1.keep JB8 (fun hx => by cases hx); have JX1 := e1.keep JX8 (fun hx => by cases hx); have N1 := and5 (cells5 JA1).1 (and5 (cells5 JB1).1 (cells5 JX1).1); have UU1 := U12.out.fr e1; have TY1 := TC12.out.keep (sh0 e1)) | (obtain ⟨n2, r2, hn2, hc2⟩ := sv_Unify UU1 HOKH.out (Int.le_trans HBDH.out (by decide)) TY1 (ht4.keep (w' := z1) (ok' := okW z1) (fun b hb hlt => ⟨hb.1, rfl, hlt⟩)); (with_reducible refine hc2.mono ?_); rintro e z2 ⟨rfl, e2, hx2⟩; have D2 := D1.step e2 (fun x hx => .inr (by simp [solL] at hx; omega)); have JA2 := e2.keep JA1 (by simp [solL]; omega); have JB2 := e2.keep JB1 (by simp [solL]; omega); have JX2 := e2.keep JX1 (by simp [solL]; omega); have N2 := and5 (cells5 JA2).1 (and5 (cells5 JB2).1 (cells5 JX2).1)) | fail "noarm"))
   all_goals
    obtain⟨ee,hcan⟩:=cN n2 r2 hn2
    have HN2:=Lib.hid hn2
    have HX2:=Lib.hid hx2
    have HD2:=Lib.hid D2
    clear cN hn2 hc2 hx2
    obtain⟨e0,A8⟩:=r
    obtain⟨e9,A9⟩:=r2
    simp only at ee hcan
    subst ee
    have q0:(e0 != e0)=false:=by simp
    by_cases hz:e0=0
    rotate_left
    ·have d0:(e0 != 0)=true:=by simp[hz]
     clear hcan
     go_wp2_with fail
     go_quiet (fail)
     all_goals
      go_wp2_with fail
      go_ret
      exact⟨by first|rfl|simp,HD2.out.drewN _⟩
    ·subst hz
     clear q0
     have hcan:=hcan rfl
     obtain⟨G8,M0,M1,M2,R8',hU,hadv,hL,_⟩:=HX.out rfl
     obtain⟨G9,K0,K1,K2,R9',hV,hadv2,hL2,_⟩:=HX2.out rfl
     have hsz8:=(unify_small (A:=⟨.one,0,.zero,.zero⟩) HOK.out HN.out).1
     have hsz9:=(unify_small (A:=⟨.one,0,.zero,.zero⟩) HOKH.out HN2.out).1
     have hlt7:∀ x ∈ solL Q M0 M1 M2,x<w10.heap.size:=fun x hx=>(hU.sw.at_.not_ok x hx).2
     have hm7:∀ x ∈ solL Q M0 M1 M2,x=Q∨w9.heap.size≤x:=fun x hx=>by
      rcases hL x hx with c|c
      ·simp[solL] at c;exact .inl c
      ·exact .inr c
     have hz1:T2<z1.heap.size:=lt_of_heap JX1
     have hm8:∀ x ∈ solL Q2 K0 K1 K2,x=Q2∨z1.heap.size≤x:=fun x hx=>by
      rcases hL2 x hx with c|c
      ·simp[solL] at c;exact .inl c
      ·exact .inr c
     have e2q:Fr [Q2] z1 z2:=e2
     have S1:=Lib.hid ((hU.sw.fr F12.out).fr e1)
     have S8:=Lib.hid (S1.out.beside e2q (fun x hx=>by simp at hx;rw[hx];exact(UU1.at_.not_ok Q2 (by simp[solL])).1) (fun x hx=>by have:=hlt7 x hx;simp;rcases hm7 x hx with c|c <;> omega))
     have V8:=Lib.hid hV.sw
     have hap:∀ x ∈ solL Q2 K0 K1 K2,x ∉ [Q]:=fun x hx=>by simp;rcases hm8 x hx with c|c <;> omega
     have HAP:=Lib.hid hap
     have WA8:=Lib.hid (wfT_le hadv.le WA.out)
     have WA9:=Lib.hid (wfT_le hadv2.le HOKH.out.wa)
     obtain⟨X,hXe⟩:∃ X,X=ap A8.s a:=⟨_,rfl⟩
     obtain⟨Y',hYe⟩:∃ Y,Y=ap A9.s ca:=⟨_,rfl⟩
     obtain⟨Z,hZ⟩:∃ Z,Z=canon X:=⟨_,rfl⟩
     have hZ2:canon Y'=Z:=by rw[hZ,hXe,hYe,hcan]
     have wX:WfT G8 X:=by rw[hXe];exact ap_wf hU.ok.sw WA8.out
     have wY:WfT G9 Y':=by rw[hYe];exact ap_wf hV.ok.sw WA9.out
     rw[← hXe] at hsz8
     rw[← hYe] at hsz9
     have HXE:=Lib.hid hXe
     have HYE:=Lib.hid hYe
     have HZ:=Lib.hid hZ
     have HZ2:=Lib.hid hZ2
     have WX:=Lib.hid wX
     have WY:=Lib.hid wY
     replace hsz8:szT X≤5000:=Nat.le_trans hsz8 (by decide)
     replace hsz9:szT Y'≤5000:=Nat.le_trans hsz9 (by decide)
     clear hcan hU hadv hL hV hadv2 hL2 hXe hYe hZ hZ2 wX wY HX HX2 HN HN2 hlt7 hm7 hm8 hap
     go_upto_region 19 with(fail)
     have hq8:=V8.out.at_.lt
     have hqs:=S8.out.at_.lt
     have cS:=fun(X:World) (ok1 ok2:Nat→Prop) (A2 B2 A4 B4:Option Addr) (c2 d2 c4 d4:Nat) (lz:LimT Z) (h1:TyAt X ok1 (· ∈ labT a++labT b) Z [.int .i64 Z.k,.int .i64 Z.v,.slice A2 Z.args.length c2,.slice B2 Z.fs.length d2,.int .i64 Z.rest]) (h2:TyAt X ok2 (· ∈ labT a++labT b) Z [.int .i64 Z.k,.int .i64 Z.v,.slice A4 Z.args.length c4,.slice B4 Z.fs.length d4,.int .i64 Z.rest])=>Lib.hid (rsame_all _ X X _ _ _ _ Z A2 B2 A4 B4 c2 d2 c4 d4 (Nat.lt_succ_self _) (Fr.refl [] X) lz h1 h2)
     have DD0:=HD2.out.drew
     have JA10:z2.drew.heap[T0]?=some (.cells #[.int .i64 a.k,.int .i64 a.v,.slice A a.args.length c,.slice B a.fs.length d,.int .i64 a.rest] 27):=JA2
     have JB10:z2.drew.heap[T0+1]?=some (.cells #[.int .i64 b.k,.int .i64 b.v,.slice A' b.args.length c',.slice B' b.fs.length d',.int .i64 b.rest] 27):=JB2
     have JX10:z2.drew.heap[T2]?=some (.cells #[.int .i64 ca.k,.int .i64 ca.v,.slice A3 ca.args.length c3,.slice B3 ca.fs.length d3,.int .i64 ca.rest] 27):=JX2
     have N10:=and5 (cells5 JA10).1 (and5 (cells5 JB10).1 (cells5 JX10).1)
     have TZ0:=(TY1.keep (sh_ok e2q (sol_notQ UU1))).keep (sh0 (Fr.refl [] z2).drew)
     have hTQ:T0+1<Q:=by omega
     have hQT:Q<T2:=by omega
     go_region_held3 (fun w'=>w'.cell? ⟨T0,0,none⟩=some (.int .i64 a.k)∧w'.cell? ⟨T0,1,none⟩=some (.int .i64 a.v)∧w'.cell? ⟨T0,2,none⟩=some (.slice A a.args.length c)∧w'.cell? ⟨T0,3,none⟩=some (.slice B a.fs.length d)∧w'.cell? ⟨T0,4,none⟩=some (.int .i64 a.rest)∧w'.cell? ⟨T0+1,0,none⟩=some (.int .i64 b.k)∧w'.cell? ⟨T0+1,1,none⟩=some (.int .i64 b.v)∧w'.cell? ⟨T0+1,2,none⟩=some (.slice A' b.args.length c')∧w'.cell? ⟨T0+1,3,none⟩=some (.slice B' b.fs.length d')∧w'.cell? ⟨T0+1,4,none⟩=some (.int .i64 b.rest)∧w'.cell? ⟨T2,0,none⟩=some (.int .i64 ca.k)∧w'.cell? ⟨T2,1,none⟩=some (.int .i64 ca.v)∧w'.cell? ⟨T2,2,none⟩=some (.slice A3 ca.args.length c3)∧w'.cell? ⟨T2,3,none⟩=some (.slice B3 ca.fs.length d3)∧w'.cell? ⟨T2,4,none⟩=some (.int .i64 ca.rest)) (first|go_keep|exact N10|exact N11|exact N12|exact N13|exact N14|exact N15)
      ((first | ((with_reducible refine (sv_Apply (t := a) (S8.out.fr (Fr.refl [] z2).drew) WA8.out (TA2.out.keep (sh0 DD0))).mono ?_); rw [← HXE.out]; rintro e y1 ⟨A5, c5, B5, d5, rfl, ht5, hS5, g1⟩; have DD1 := DD0.step g1 (fun x hx => .inr (by simp at hx; omega)); have JA11 := g1.keep JA10 (by simp; omega); have JB11 := g1.keep JB10 (by simp; omega); have JX11 := g1.keep JX10 (by simp; omega); have N11 := and5 (cells5 JA11).1 (and5 (cells5 JB11).1 (cells5 JX11).1); have VV1 := (V8.out.fr (Fr.refl [] z2).drew).beside g1 (sol_notQ (S8.out.fr (Fr.refl [] z2).drew)) HAP.out; have TZ1 := TZ0.keep (sh_ok g1 (sol_notQ (S8.out.fr (Fr.refl [] z2).drew))); have LX := lim_of HFEW.out ht5 WX.out) | ((with_reducible refine (canon_any ht5 WX.out LX hsz8).mono ?_); rw [← HZ.out]; rintro e y2 ⟨A6, c6, B6, d6, rfl, ht6, g2⟩; have DD2 := DD1.trans g2; have JA12 := g2.keep JA11 (fun hx => by cases hx); have JB12 := g2.keep JB11 (fun hx => by cases hx); have JX12 := g2.keep JX11 (fun hx => by cases hx); have N12 := and5 (cells5 JA12).1 (and5 (cells5 JB12).1 (cells5 JX12).1); have VV2 := VV1.fr g2; have TZ2 := TZ1.keep (sh0 g2); have LZ := lim_canon LX; rw [← HZ.out] at LZ) | ((with_reducible refine (sv_Apply (t := ca) VV2 WA9.out TZ2).mono ?_); rw [← HYE.out]; rintro e y3 ⟨A7, c7, B7, d7, rfl, ht7, hS7, g3⟩; have DD3 := DD2.step g3 (fun x hx => .inr (by simp at hx; omega)); have JA13 := g3.keep JA12 (by simp; omega); have JB13 := g3.keep JB12 (by simp; omega); have JX13 := g3.keep JX12 (by simp; omega); have N13 := and5 (cells5 JA13).1 (and5 (cells5 JB13).1 (cells5 JX13).1); have LY := lim_of HFEW.out ht7 WY.out) | ((with_reducible refine (canon_any ht7 WY.out LY hsz9).mono ?_); rw [HZ2.out]; rintro e y4 ⟨A0, c0, B0, d0, rfl, ht9, g4⟩; have DD4 := DD3.trans g4; have JA14 := g4.keep JA13 (fun hx => by cases hx); have JB14 := g4.keep JB13 (fun hx => by cases hx); have JX14 := g4.keep JX13 (fun hx => by cases hx); have N14 := and5 (cells5 JA14).1 (and5 (cells5 JB14).1 (cells5 JX14).1); have ht10 := (ht6.keep (w' := y3) (ok' := okW y3) (fun b hb hlt => Sh.q (Fr.refl [] y2) g3 VV2 b hb.1 hlt)).keep (sh0 g4)) | ((with_reducible refine (cS y4 _ _ A6 B6 A0 B0 c6 d6 c0 d0 LZ ht10 ht9).out.mono ?_); rintro e y5 ⟨rfl, g5⟩; have DD5 := DD4.trans g5; have JA15 := g5.keep JA14 (fun hx => by cases hx); have JB15 := g5.keep JB14 (fun hx => by cases hx); have JX15 := g5.keep JX14 (fun hx => by cases hx); have N15 := and5 (cells5 JA15).1 (and5 (cells5 JB15).1 (cells5 JX15).1)) | fail "noarm"))
     all_goals
      have HFF:=Lib.hid DD5
      go_wp2_with fail
      go_ret
      exact⟨by first|rfl|simp,HFF.out⟩
end
end
section
open Go.ChangeShapes Go.WideShapes Go.ChangeAt Go.ChangeMaps Go.RowKit
theorem rowNames_facts:joinedFacts Tryz.pinned.checked.prog 5 Tryz.f5 (OpenSpec.ofChange Rows.rowNamesSpec).bare Rows.rowNamesRow=true:=by kernel_rfl
theorem rowNames_reads(os:Os){H:Type}(enc:TypeId×Value→H):∃ places,DataW.whole enc Tryz.prog ((doorW os).forCall (fun _ _=>0) ⟨#[],#[.agg #[.int .i64 0,.int .i64 0,.slice none 0 0,.slice none 0 0,.int .i64 0],.agg #[.int .i64 0,.int .i64 0,.slice none 0 0,.slice none 0 0,.int .i64 0]],[]⟩).memory Tryz.f5.params.toList Rows.rowNamesSpec.vars false (#[.agg #[.int .i64 0,.int .i64 0,.slice none 0 0,.slice none 0 0,.int .i64 0],.agg #[.int .i64 0,.int .i64 0,.slice none 0 0,.slice none 0 0,.int .i64 0]]:Array Value).toList 8=some ([.agg [.lit (.int .i64 0),.lit (.int .i64 0),.nil,.agg [.nil,.lit (.int .i64 0)]],.agg [.lit (.int .i64 0),.lit (.int .i64 0),.nil,.agg [.nil,.lit (.int .i64 0)]]],[],places):=
 ⟨[],by kernel_rfl⟩
set_option maxRecDepth 100000 in
theorem rowNames_contract(H:Type)(enc:TypeId×Value→H)(W:World)(base:Nat)(args:Array Value)(ds gs:List (DataW H))(before:List MemPlace)
  (hval:∀ (j:Nat) t v,Tryz.f5.params[j]?=some t→args[j]?=some v→Value.okWide Tryz.prog W .any base t v)
  (hW:DataW.Whole enc Tryz.prog Tryz.f5.params.toList Rows.rowNamesSpec.vars false W args.toList ds gs before):
  Calls Tryz.prog 5 args W fun e W'=>∃ v,e = .returned v∧Rows.rowNamesSpec.post enc Tryz.prog Tryz.f5 false true false false W args v W':=by
 letI:LoB:=⟨W.heap.size⟩
 have hW':=hW
 obtain⟨p,q,hA0,hV,rfl,hfz,hnd⟩:=hW
 have hA:DataW.TrodAll enc Tryz.prog W 0 (fun _=>true) true Tryz.f5.params.toList args.toList ds p:=hA0
 rw[Tryz.params5] at hA hval
 obtain⟨v0,vs0,d0,ds0,p0,q0,hargs,rfl,rfl,t0,r0⟩:=trodAll_cons hA
 obtain⟨v1,vs1,d1,ds1,p1,q1,rfl,rfl,rfl,t1,r1⟩:=trodAll_cons r0
 obtain⟨rfl,rfl,rfl⟩:=trodAll_nil r1
 obtain rfl:args = #[v0,v1]:=by cases args;simp_all
 obtain⟨rfl,rfl⟩:=trodVars_none hV
 have tkx:=t0
 obtain⟨csx,rfl⟩:=agg_ofT Tryz.underlying27 (hval 0 27 v0 rfl rfl)
 obtain⟨x,Ax,cx,Bx,ex,rfl,xt⟩:=open_arg_ty rfl t0
 have hltx:∀ z ∈ p0,z.block<W.heap.size:=fun z hz=>hW'.lt z (by simp[hz])
 have tky:=t1
 obtain⟨csy,rfl⟩:=agg_ofT Tryz.underlying27 (hval 1 27 v1 rfl rfl)
 obtain⟨y,Ay,cy,By,ey,rfl,yt⟩:=open_arg_ty rfl t1
 have hlty:∀ z ∈ p1,z.block<W.heap.size:=fun z hz=>hW'.lt z (by simp[hz])
 clear hA0
 simp only[List.append_nil] at hW'
 refine(RowNames_walk rfl xt yt).mono fun e W' ⟨he,hf⟩=>?_
 subst he
 refine⟨_,rfl,_,_,_,[],p0++(p1++([])),[],hW',?_,?_,rfl,hf.below0.frame _,fun h=>by cases h⟩
 ·exact trodAll_cons_mk (shut_bool Tryz.underlying4 _) trodAll_mk0
 ·exact trodAll_cons_mk (Below.trod laidOutT (by kernel_rfl) (of_decide_eq_true (by kernel_rfl)) tkx hf.below0 hltx) (trodAll_cons_mk (Below.trod laidOutT (by kernel_rfl) (of_decide_eq_true (by kernel_rfl)) tky hf.below0 hlty) trodAll_mk0)
set_option maxRecDepth 100000 in
theorem rowNames_lifted(os:Os)(started:os.Started)(H:Type)(enc:TypeId×Value→H)(F:Stop.Interp):
  ReturnsInHanded {} Tryz.checked os 5 .any ((OpenSpec.ofChange Rows.rowNamesSpec).preRow enc Tryz.prog Tryz.f5 Rows.rowNamesRow.domain false Rows.rowNamesRow.laid) (((OpenSpec.ofChange Rows.rowNamesSpec).at F).post enc Tryz.prog Tryz.f5 false true false false):=by
 obtain⟨places,hx⟩:=rowNames_reads os enc
 refine returnsInHanded_of_row (C:=Tryz.checked) (s:=OpenSpec.ofChange Rows.rowNamesSpec) own started (by kernel_rfl) Tryz.func5
  (witness_row_atRef (enc:=enc) (C:=Tryz.checked) false (doorW os) #[.agg #[.int .i64 0,.int .i64 0,.slice none 0 0,.slice none 0 0,.int .i64 0],.agg #[.int .i64 0,.int .i64 0,.slice none 0 0,.slice none 0 0,.int .i64 0]] rfl (by kernel_rfl) (by kernel_rfl) (by kernel_rfl)
   (OpenSpec.preRow_of_cond 8 hx (by kernel_rfl) (fun k hk=>by cases hk) (by kernel_rfl) (laid_met os _))) ?_
 intro W base args ds gs before hval hW _ _ _ _ _ _
 exact rowNames_contract H enc W base args ds gs before hval hW
theorem rowNames_said:Rows.RowNamesSaid :=
 OpenClaim.holds_of_cond 5 Tryz.f5 rfl rfl rfl rfl rfl rfl rfl ⟨rfl,rfl,rfl,rfl,rfl⟩ rfl rfl rfl rfl rfl (by kernel_rfl) Tryz.func5 rowNames_facts
  (of_decide_eq_true (by kernel_rfl)) (by unfold Func.isWrapper;first|(rw[if_pos (by decide +kernel)];kernel_rfl)| (rw[if_neg (by decide +kernel)];exact⟨rfl,rfl⟩))
  (fun os started H enc _ F=>by rw[OpenClaim.pre_eq_preRow];exact rowNames_lifted os started H enc F)
theorem rowNames_plain (f : FuncId) (fn : Func) (hf : Tryz.pinned.checked.prog.funcNamed "marquetry/marquetrylaw10.RowNames" = some f) (hfn : Tryz.pinned.checked.prog.funcs[f]? = some fn) :
  false=Tryz.pinned.checked.prog.looks []∧∀ (j:Nat) t,fn.params[j]?=some t→Tryz.pinned.checked.prog.wantsStandIn t=false:=by
 obtain rfl : f = 5 := Option.some.inj ((show Tryz.prog.funcNamed "marquetry/marquetrylaw10.RowNames" = some 5 by kernel_rfl).symm.trans hf) |>.symm
 obtain rfl:fn=Tryz.f5:=(Option.some.inj (Tryz.func5.symm.trans hfn)).symm
 refine⟨by kernel_rfl,fun j t ht=>?_⟩
 rw[Tryz.params5] at ht
 have hm:t ∈ [27,27]:=by simpa using Array.mem_of_getElem? ht
 have hall:([27,27].all fun u=>!Tryz.prog.wantsStandIn u)=true:=by kernel_rfl
 exact(show Tryz.prog.wantsStandIn t=false by simpa using List.all_eq_true.1 hall t hm)
theorem rowNames_card:Rows.RowNamesCardSaid :=
 Claim7.holds_tied_plain_at .later [] _ _ _ _ rowNames_said (fun _ h=>by cases h) (by kernel_rfl) (fun _ h=>by cases h) rowNames_row_tie rfl ⟨rfl,rfl⟩ (by kernel_rfl) rfl rowNames_plain (by kernel_rfl)
end
end Go.Proofs.YtoimdiballicnaaGreatDoor
