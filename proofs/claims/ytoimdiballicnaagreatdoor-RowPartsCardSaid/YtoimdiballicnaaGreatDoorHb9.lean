/- A part of the proof: Gx, Jt, Jo, Jo2, Jo3. -/
import Derived.Test.YtoimdiballicnaaGreatDoorHb5
import Derived.Test.YtoimdiballicnaaGreatDoorHb6
import Derived.Test.YtoimdiballicnaaGreatDoorHb7
namespace Go.Proofs.YtoimdiballicnaaGreatDoor
open Go.RowKit
set_option linter.all false
set_option maxHeartbeats 16000000
set_option maxRecDepth 100000
section
attribute [local go_sem ↓] Go.wp_at_zero Go.wp_at_succ
section
variable [LoB]
attribute [local instance] Ex.no
theorem heap_st2{w:World}{O:Nat}{a b c d e:Value}{T:TypeId}(h:w.heap[O]?=some (.cells #[a,b,c,d,e] T (0,0)))(u v:Value):((w.setCell ⟨O,3,none⟩ u).setCell ⟨O,4,none⟩ v).heap[O]?=some (.cells #[a,b,c,u,v] T (0,0)):=by
 simp[World.setCell,Array.getElem?_modify,h]
theorem fr_st2(w:World)(O:Nat)(u v:Value):Fr [O] w ((w.setCell ⟨O,3,none⟩ u).setCell ⟨O,4,none⟩ v):=((Fr.refl [O] w).setCell (p:=⟨O,3,none⟩) (.inl (by simp)) u).setCell (p:=⟨O,4,none⟩) (.inl (by simp)) v
def APC(N:Nat):Prop:=∀ (w W:World)(P:List UInt8→Prop)(Q:Nat)(M0 M1 M2:Option Nat)(G:Ctx)(R:Raw)(s:Sub)(m:Int)(ta tb t:TyT)(A B:Option Addr)(c d:Nat),szT (ap s t)<N→Fr [] w W→SolW w P Q M0 M1 M2 G R s m ta tb→WfT G t →
  TyAt w (okW w) P t [.int .i64 t.k,.int .i64 t.v,.slice A t.args.length c,.slice B t.fs.length d,.int .i64 t.rest] →
  Calls Tryz.prog 33 #[.pointer (some ⟨Q,0,none⟩),.agg #[.int .i64 t.k,.int .i64 t.v,.slice A t.args.length c,.slice B t.fs.length d,.int .i64 t.rest]] W fun e w'=>∃ (A':Option Addr) (c':Nat) (B':Option Addr) (d':Nat),e = .returned (.agg #[.int .i64 (ap s t).k,.int .i64 (ap s t).v,.slice A' (ap s t).args.length c',.slice B' (ap s t).fs.length d',.int .i64 (ap s t).rest])∧
   TyAt w' (fun b=>okW w' b∧W.heap.size≤b) P (ap s t) [.int .i64 (ap s t).k,.int .i64 (ap s t).v,.slice A' (ap s t).args.length c',.slice B' (ap s t).fs.length d',.int .i64 (ap s t).rest]∧Fr [] W w'
theorem apply_step(N:Nat)(ih:APC N):APC (N+1):=by
 intro w W P Q M0 M1 M2 G R s m ta tb t A B c d hN hW hS wt ht
 obtain⟨y,hy,hH⟩:=hS.head wt ht
 have IH:=Lib.hid ih
 have HS:=Lib.hid hS
 have HY:=Lib.hid hy
 have HW:=Lib.hid hW
 have hq:=Nat.lt_of_lt_of_le hS.at_.lt hW.size
 obtain⟨i0,hi,hz0,hz1,hz2⟩:=info_parts infoTy
 have HI:=Lib.hid hi
 have HZ0:=Lib.hid hz0
 have HZ1:=Lib.hid hz1
 have HZ2:=Lib.hid hz2
 have f0:=((Fr.refl [] W).alloc (.cells #[.int .i64 t.k,.int .i64 t.v,.slice A t.args.length c,.slice B t.fs.length d,.int .i64 t.rest] 27)).alloc (.cells #[.int .i64 0,.int .i64 0,.slice none 0 0,.slice none 0 0,.int .i64 0] 27)
 have g0:=heap_old (heap_new W (.cells #[.int .i64 t.k,.int .i64 t.v,.slice A t.args.length c,.slice B t.fs.length d,.int .i64 t.rest] 27)) (.cells #[.int .i64 0,.int .i64 0,.slice none 0 0,.slice none 0 0,.int .i64 0] 27)
 have g1:=heap_new (W.alloc (.cells #[.int .i64 t.k,.int .i64 t.v,.slice A t.args.length c,.slice B t.fs.length d,.int .i64 t.rest] 27)) (.cells #[.int .i64 0,.int .i64 0,.slice none 0 0,.slice none 0 0,.int .i64 0] 27)
 rw[World.size_alloc] at g1
 have cH:=fun X hX=>Lib.hid (hH X (hW.trans hX))
 obtain⟨⟨l0,l1,l2,l3,l4⟩,_⟩:=cells5 g0
 have hgs:=lt_of_heap g0
 obtain⟨Z,hSz⟩:∃ Z,ap s t=Z:=⟨_,rfl⟩
 rw[hSz] at hN ⊢
 have HSZ:=Lib.hid hSz
 have HN:=Lib.hid hN
 clear ih hS hy hH hW wt ht hSz hN hi hz0 hz1 hz2
 go_enter Tryz.func33,Tryz.ntmps33
 go_wp2_with fail
 refine(cH _ f0).out.mono ?_
 rintro e w1 ⟨A',c',B',d',rfl,hty,f1⟩
 have F1:=f0.trans f1
 have hG1:=f1.keep g0 (fun x=>by cases x)
 have hR1:=f1.keep g1 (fun x=>by cases x)
 have hs1:=lt_of_heap hG1
 have hs2:=lt_of_heap hR1
 have hZ:=heap_old (st5_heap hG1 (.int .i64 y.k) (.int .i64 y.v) (.slice A' y.args.length c') (.slice B' y.fs.length d') (.int .i64 y.rest)) (.cells #[.int .i64 y.k,.int .i64 y.v,.slice none 0 0,.slice none 0 0,.int .i64 0] 27)
 have hZR:=heap_old ((st5_fr w1 W.heap.size (.int .i64 y.k) (.int .i64 y.v) (.slice A' y.args.length c') (.slice B' y.fs.length d') (.int .i64 y.rest)).keep hR1 (by simp)) (.cells #[.int .i64 y.k,.int .i64 y.v,.slice none 0 0,.slice none 0 0,.int .i64 0] 27)
 have hZO:=heap_new (st5 w1 W.heap.size (.int .i64 y.k) (.int .i64 y.v) (.slice A' y.args.length c') (.slice B' y.fs.length d') (.int .i64 y.rest)) (.cells #[.int .i64 y.k,.int .i64 y.v,.slice none 0 0,.slice none 0 0,.int .i64 0] 27)
 rw[st5_size] at hZO
 have hFZ:=((F1.step (st5_fr w1 W.heap.size (.int .i64 y.k) (.int .i64 y.v) (.slice A' y.args.length c') (.slice B' y.fs.length d') (.int .i64 y.rest)) (fun x hx => .inr (by simp at hx;omega)):Fr [] W _).alloc (.cells #[.int .i64 y.k,.int .i64 y.v,.slice none 0 0,.slice none 0 0,.int .i64 0] 27))
 unfold st5 at hZ hFZ hZR hZO
 obtain⟨har,hfs⟩:=hty.parts
 have HAR:=Lib.hid har
 have HFS:=Lib.hid hfs
 obtain⟨⟨k0,k1,k2,k3,k4⟩,zz0,zz1,zz2,zz3,zz4⟩:=cells5 hG1
 clear l0 l1 l2 l3 l4 cH f0 f1 g0 g1 hty har hfs F1 hR1
 go_wp2_with fail
 have HZ:=Lib.hid hZ
 have HFZ:=Lib.hid hFZ
 have HZR:=Lib.hid hZR
 have HZO:=Lib.hid hZO
 clear hZ hFZ hZR hZO hG1 k0 k1 k2 k3 k4 zz0 zz1 zz2 zz3 zz4
 generalize (((((w1.setCell ⟨W.heap.size,0,none⟩ (.int .i64 y.k)).setCell ⟨W.heap.size,1,none⟩ (.int .i64 y.v)).setCell ⟨W.heap.size,2,none⟩ (.slice A' y.args.length c')).setCell ⟨W.heap.size,3,none⟩ (.slice B' y.fs.length d')).setCell ⟨W.heap.size,4,none⟩ (.int .i64 y.rest)).alloc (.cells #[.int .i64 y.k,.int .i64 y.v,.slice none 0 0,.slice none 0 0,.int .i64 0] 27)=x0 at *
 generalize hT:W.heap.size=T at *
 generalize hO:w1.heap.size=O at *
 clear hgs
 have hTO:T+1<O:=by omega
 have hal:y.args.length≤2:=HY.out.few.1
 have HA0:=Lib.hid (AppT.nil (O+1) x0 P)
 obtain⟨⟨l0,l1,l2,l3,l4⟩,_⟩:=cells5 HZ.out
 go_loopw [21] (fun iv wr=>∃ (i:Nat) (don:List TyM) (A9:Option Addr) (c9:Nat),iv = .int .i64 i∧i≤y.args.length∧Hid (wr.heap[T]?=some (.cells #[.int .i64 y.k,.int .i64 y.v,.slice A' y.args.length c',.slice B' y.fs.length d',.int .i64 y.rest] 27 (0,0)))∧Hid (wr.heap[T+1]?=some (.cells #[.int .i64 0,.int .i64 0,.slice none 0 0,.slice none 0 0,.int .i64 0] 27 (0,0)))∧
  Hid (wr.heap[O]?=some (.cells #[.int .i64 y.k,.int .i64 y.v,.slice A9 don.length c9,.slice none 0 0,.int .i64 0] 27 (0,0)))∧Hid (don.map (·.t)=apTs s (y.args.take i))∧Hid (AppT (O+1) P wr A9 c9 don)∧Hid (Fr [] W wr)) (fun iv wr=>y.args.length-(intOf iv).toNat)
 case atStart=>exact⟨0,[],none,0,rfl,by omega,HZ,HZR,HZO,Lib.hid rfl,HA0,HFZ⟩
 case round =>
  obtain⟨i,don,A9,c9,rfl,hi,G0,G1,G2,HDN,HAP,HF⟩:=hrel
  clear HZ HFZ HZR HZO HA0 l0 l1 l2 l3 l4
  have q1:(0:Int)≤(i:Int):=by omega
  have hsO:=lt_of_heap G2.out
  have hsT:=lt_of_heap G0.out
  by_cases hlt:i<y.args.length
  ·have hx:y.args[i]?=some y.args[i]:=List.getElem?_eq_getElem hlt
   generalize y.args[i]=z at hx
   have q2:(i:Int)<(y.args.length:Int):=by omega
   have hzm:=List.mem_of_getElem? hx
   obtain⟨g,og,rfl,hok,hg,B2,d2,D2,e2,hty,x0,x1,x2,x3,x4⟩:=HAR.out.at hx
   have fw:=HW.out.trans HF.out
   replace x0:=(fw.cell (p:=⟨g,og+i * 5,none⟩) hg (fun x=>by cases x)).trans x0
   replace x1:=(fw.cell (p:=⟨g,og+i * 5+1,none⟩) hg (fun x=>by cases x)).trans x1
   replace x2:=(fw.cell (p:=⟨g,og+i * 5+2,none⟩) hg (fun x=>by cases x)).trans x2
   replace x3:=(fw.cell (p:=⟨g,og+i * 5+3,none⟩) hg (fun x=>by cases x)).trans x3
   replace x4:=(fw.cell (p:=⟨g,og+i * 5+4,none⟩) hg (fun x=>by cases x)).trans x4
   have hgw:g<wr.heap.size:=Nat.lt_of_lt_of_le hg fw.size
   have hzN:szT (ap s z)<N:=by
    have h1:=szTs_le (s:=s) hzm
    have h3:=HN.out
    have hk1:y.k≠1:=fun c=>by have:=(HY.out.var c).2.1;rw[this] at hlt;simp[TyT.var,TyT.args] at hlt
    by_cases hr:rwd y.k=true
    ·rw[(HY.out.row hr).1] at hlt;simp at hlt
    ·rw[← HSZ.out,(HY.out.pln hk1 hr).2.2,szT] at h3;omega
   have cS:=fun X (hX:Fr [] W X)=>Lib.hid (IH.out w X P Q M0 M1 M2 G R s m ta tb z B2 D2 d2 e2 hzN (HW.out.trans hX) HS.out (HY.out.few.2 z hzm) hty)
   have hdl:don.length≤2:=by
    have h1:=congrArg List.length HDN.out
    rw[List.length_map,apTs_map,List.length_map,List.length_take] at h1
    omega
   have f7:=(Fr.refl [] wr).alloc (.cells #[.int .i64 z.k,.int .i64 z.v,.slice B2 z.args.length d2,.slice D2 z.fs.length e2,.int .i64 z.rest] 27)
   have p7:=heap_new wr (.cells #[.int .i64 z.k,.int .i64 z.v,.slice B2 z.args.length d2,.slice D2 z.fs.length e2,.int .i64 z.rest] 27)
   have HX:=Lib.hid hx
   clear hx hok hty fw hzm hzN
   go_wp2_with fail
   generalize wr.alloc (.cells #[.int .i64 z.k,.int .i64 z.v,.slice B2 z.args.length d2,.slice D2 z.fs.length e2,.int .i64 z.rest] 27)=w7 at *
   generalize hC:wr.heap.size=C at *
   clear x0 x1 x2 x3 x4
   have n1:¬ O=C:=by omega
   have n2:¬ C=O:=by omega
   have k7:=f7.keep G2.out (fun x=>by cases x)
   have hT7:=lt_of_heap k7
   have hC7:=lt_of_heap p7
   obtain⟨⟨l0,l1,l2,l3,l4⟩,_⟩:=cells5 k7
   obtain⟨⟨e0,e1,e2',e3,e4⟩,_⟩:=cells5 p7
   have HF7:=Lib.hid (HF.out.trans f7)
   have HAP7:=Lib.hid (HAP.out.keep f7 (fun x hx=>by cases hx))
   have F70:=Lib.hid f7
   have hOB:∀ b,b<O+1→some b≠(Value.slice A9 don.length c9).ownBlock:=fun b hb e=>by have:=(HAP.out.lo b e.symm).1;omega
   have hOC:some C≠(Value.slice A9 don.length c9).ownBlock:=fun e=>by have:=(HAP.out.lo C e.symm).2;omega
   have HOB:=Lib.hid hOB
   have HOC:=Lib.hid hOC
   have hsz7:=f7.size
   clear f7 hOB hOC
   refine wp_region_tail1 8 (fun w'=>(w'.cell? ⟨C,0,none⟩=some (.int .i64 z.k)∧w'.cell? ⟨C,1,none⟩=some (.int .i64 z.v)∧w'.cell? ⟨C,2,none⟩=some (.slice B2 z.args.length d2)∧w'.cell? ⟨C,3,none⟩=some (.slice D2 z.fs.length e2)∧w'.cell? ⟨C,4,none⟩=some (.int .i64 z.rest))∧w'.cell? ⟨O,2,none⟩=some (.slice A9 don.length c9)) (by kernel_rfl) (by kernel_rfl) rfl ⟨⟨e0,e1,e2',e3,e4⟩,l2⟩ (fun K hK hHeld=>?hsx)
   dsimp only[List.take]
   refine held_take (i:=0) (v:=?vx_0) rfl (by kernel_rfl) (by kernel_rfl) (by kernel_rfl) (fun _ _ _ h=>h) (Or.inl ⟨by rfl,?yx_0⟩) hHeld ?rx_0
   case yx_0 =>
    intro w' hSw
    go_simp
    (try with_reducible rfl)
   (try simp only[Act.put,List.setIfInBounds_toArray,List.set_cons_zero,List.set_cons_succ])
   refine held_take (i:=1) (v:=?vx_1) rfl (by kernel_rfl) (by kernel_rfl) (by kernel_rfl) (fun _ _ _ h=>h) (Or.inl ⟨by rfl,?yx_1⟩) hHeld ?rx_1
   case yx_1 =>
    intro w' hSw
    go_simp
    (try with_reducible rfl)
   (try simp only[Act.put,List.setIfInBounds_toArray,List.set_cons_zero,List.set_cons_succ])
   refine held_take (i:=2) (v:=?vx_2) rfl (by kernel_rfl) (by kernel_rfl) (by kernel_rfl) (fun _ _ _ h=>h) (Or.inl ⟨by rfl,?yx_2⟩) hHeld ?rx_2
   case yx_2 =>
    intro w' hSw
    go_simp
    (try with_reducible rfl)
   (try simp only[Act.put,List.setIfInBounds_toArray,List.set_cons_zero,List.set_cons_succ])
   refine held_take (i:=3) (v:=?vx_3) rfl (by kernel_rfl) (by kernel_rfl) (by kernel_rfl) (fun _ _ _ h=>h) (Or.inl ⟨by rfl,?yx_3⟩) hHeld ?rx_3
   case yx_3 =>
    intro w' hSw
    go_simp
    (try with_reducible rfl)
   (try simp only[Act.put,List.setIfInBounds_toArray,List.set_cons_zero,List.set_cons_succ])
   refine held_step (i:=4) rfl (by kernel_rfl) (fun K1 hK1=>?tx_4)
   go_simp
   (with_reducible refine(cS _ (HF7.out.drew)).out.mono ?_)
   rintro e x6 ⟨A',c',B',d',rfl,hT6,f6⟩
   have F6:=(Fr.refl [] w7).drew.trans f6
   have Q6:=F6.keep p7 (fun x=>by cases x)
   have M7:=(cells5 Q6).1
   have G6:=F6.keep k7 (fun x=>by cases x)
   have hTl:=lt_of_heap G6
   have hCl:=lt_of_heap Q6
   have HAP6:=Lib.hid (HAP7.out.keep F6 (fun x hx=>by cases hx))
   obtain⟨⟨u0,u1,u2,u3,u4⟩,z0,z1,z2,z3,z4⟩:=cells5 G6
   have m1:¬ x6.heap.size=O:=(by omega)
   have hT6':TyAt x6 (fun b=>okW x6 b∧w7.heap.size≤b) P (ap s z) _:=hT6
   go_simp
   refine hK1.out _ _ (⟨M7,u2⟩) (fun hHeld=>?ux_4)
   clear hK1 K1
   (try simp only[Act.put,List.setIfInBounds_toArray,List.set_cons_zero,List.set_cons_succ])
   refine held_step (i:=5) rfl (by kernel_rfl) (fun K1 hK1=>?tx_5)
   go_simp
   go_simp
   refine hK1.out _ _ (⟨(cells5 (heap_old Q6 _)).1,(cells5 (heap_old G6 _)).1.2.2.1⟩) (fun hHeld=>?ux_5)
   clear hK1 K1
   (try simp only[Act.put,List.setIfInBounds_toArray,List.set_cons_zero,List.set_cons_succ])
   refine held_step (i:=6) rfl (by kernel_rfl) (fun K1 hK1=>?tx_6)
   refine step_append_fp (by rfl) _ _ 22 (by rfl) 27 i0 _ 5 72 Tryz.underlying22 HI.out HZ0.out HZ1.out HZ2.out rfl (by decide) (.slice A9 don.length c9) don.length (don.flatMap encT) (by rfl) (ownsRow_fr HAP6.out.own ((Fr.refl [] x6).alloc _) (fun _ _ x=>by cases x)) ⟨x6.heap.size,0,none⟩ 1 1 [.int .i64 (ap s z).k,.int .i64 (ap s z).v,.slice A' (ap s z).args.length c',.slice B' (ap s z).fs.length d',.int .i64 (ap s z).rest] (by rfl) rfl (World.news_of_block (heap_new x6 _)) (by simp[Value.oneCell']) (by simp only[maxLen];omega) (by omega) ?_
   intro v9 w9 hown9 hgrow9 hfp9
   obtain⟨g9,cp9,hv9⟩:=own_form hown9
   subst hv9
   have Q9:=(hgrow9.block C (lt_of_heap (heap_old Q6 _)) HOC.out).trans (heap_old Q6 _)
   have M9:=(cells5 Q9).1
   have G9:=(hgrow9.block O (lt_of_heap (heap_old G6 _)) (HOB.out _ (by omega))).trans (heap_old G6 _)
   obtain⟨⟨u0,u1,u2,u3,u4⟩,z0,z1,z2,z3,z4⟩:=cells5 G9
   refine hK1.out _ _ (⟨M9,u2⟩) (fun hHeld=>?ux_6)
   clear hK1 K1
   (try simp only[Act.put,List.setIfInBounds_toArray,List.set_cons_zero,List.set_cons_succ])
   refine held_take (i:=7) (v:=?vx_7) rfl (by kernel_rfl) (by kernel_rfl) (by kernel_rfl) (fun _ _ _ h=>h) (Or.inl ⟨by rfl,?yx_7⟩) hHeld ?rx_7
   case yx_7 =>
    intro w' hSw
    go_simp
    (try with_reducible rfl)
   (try simp only[Act.put,List.setIfInBounds_toArray,List.set_cons_zero,List.set_cons_succ])
   refine wpAnyH_done (by kernel_rfl) ?_ _
   refine thenLast_run rfl ?_
   go_simp
   refine hK.out _ _ ?_
   clear hK K
   all_goals
    have hF6:Fr [] W x6:=HF7.out.trans F6
    have hO9:=(hgrow9.block T (lt_of_heap (heap_old (F6.keep (F70.out.keep G0.out (fun x=>by cases x)) (fun x=>by cases x)) _)) (HOB.out _ (by omega))).trans (heap_old (F6.keep (F70.out.keep G0.out (fun x=>by cases x)) (fun x=>by cases x)) _)
    have hR9:=(hgrow9.block (T+1) (lt_of_heap (heap_old (F6.keep (F70.out.keep G1.out (fun x=>by cases x)) (fun x=>by cases x)) _)) (HOB.out _ (by omega))).trans (heap_old (F6.keep (F70.out.keep G1.out (fun x=>by cases x)) (fun x=>by cases x)) _)
    have hs6:O+1≤(x6.alloc (.cells #[.int .i64 (ap s z).k,.int .i64 (ap s z).v,.slice A' (ap s z).args.length c',.slice B' (ap s z).fs.length d',.int .i64 (ap s z).rest] 27)).heap.size:=by rw[World.size_alloc];omega
    have hTa:=hT6'.keep (w':=x6.alloc (.cells #[.int .i64 (ap s z).k,.int .i64 (ap s z).v,.slice A' (ap s z).args.length c',.slice B' (ap s z).fs.length d',.int .i64 (ap s z).rest] 27)) (ok':=fun b=>(okW (x6.alloc (.cells #[.int .i64 (ap s z).k,.int .i64 (ap s z).v,.slice A' (ap s z).args.length c',.slice B' (ap s z).fs.length d',.int .i64 (ap s z).rest] 27)) b∧O+1≤b)∧(Value.slice A9 don.length c9).ownBlock≠some b) (fun b hb hlt=>⟨⟨⟨okW_fr ((Fr.refl [] x6).alloc _) hb.1 (fun x=>by cases x) hlt,by have:=hb.2;omega⟩,fun e=>by have h1:=(HAP7.out.lo b e).2;have:=hb.2;omega⟩,((Fr.refl [] x6).alloc _).block b hlt (fun x=>by cases x),by rw[World.size_alloc];omega⟩)
    have hap:=(HAP6.out.keep ((Fr.refl [] x6).alloc (.cells #[.int .i64 (ap s z).k,.int .i64 (ap s z).v,.slice A' (ap s z).args.length c',.slice B' (ap s z).fs.length d',.int .i64 (ap s z).rest] 27)) (fun x hx=>by cases hx)).app (x:=⟨ap s z,A',c',B',d'⟩) hTa hs6 hown9 hgrow9 hfp9
    have fT:Fr [O] w9 (w9.setCell ⟨O,2,none⟩ (.slice (some ⟨g9,0,none⟩) (don.length+1) cp9)):=(Fr.refl [O] w9).setCell (p:=⟨O,2,none⟩) (.inl (by simp)) _
    have hF9:Fr [] W (w9.setCell ⟨O,2,none⟩ (.slice (some ⟨g9,0,none⟩) (don.length+1) cp9)):=((hF6.alloc _).grown hgrow9 (fun k e => .inr (by have:=(HAP.out.lo k e).1;omega))).step fT (fun x hx => .inr (by simp at hx;omega))
    have R0:=Lib.hid (fT.keep hO9 (by simp;omega))
    have R1:=Lib.hid (fT.keep hR9 (by simp;omega))
    have R2:Hid ((w9.setCell ⟨O,2,none⟩ (.slice (some ⟨g9,0,none⟩) (don.length+1) cp9)).heap[O]?=some (.cells #[.int .i64 y.k,.int .i64 y.v,.slice (some ⟨g9,0,none⟩) (don.length+1) cp9,.slice none 0 0,.int .i64 0] 27 (0,0))):=Lib.hid (by simp[World.setCell,Array.getElem?_modify,G9])
    have R3:=Lib.hid (hap.keep fT (fun x hx=>by simp at hx;omega))
    have R4:=Lib.hid hF9
    have R5':Hid ((don++[(⟨ap s z,A',c',B',d'⟩:TyM)]).map (·.t)=apTs s (y.args.take (i+1))):=Lib.hid (by
     rw[List.take_add_one,HX.out,apTs_map,List.map_append,List.map_append,← apTs_map,← HDN.out,Option.toList_some,List.map_cons,List.map_nil,List.map_cons,List.map_nil])
    clear hO9 hR9 hap fT hF9 hgrow9 hown9 hfp9 Q9 M9 G9 Q6 M7 G6 hT6 hT6' f6 F6 u0 u1 u2 u3 u4 z0 z1 z2 z3 z4 l0 l1 l2 l3 l4 e0 e1 e2' e3 e4 cS hF6 hs6 hTa
    go_wp2_with fail
    go_roundw
    case rel=>exact⟨i+1,don++[⟨ap s z,A',c',B',d'⟩],some ⟨g9,0,none⟩,cp9,by first|rfl|simp|go_num,by omega,R0,R1,by rw[List.length_append,List.length_singleton];exact R2,R5',R3,R4⟩
    case measure=>simp[intOf];omega
  ·have q2:¬ (i:Int)<(y.args.length:Int):=by omega
   rw[List.take_of_length_le (by omega)] at HDN
   have hOw:∀ x ∈ don,True:=fun _ _=>trivial
   clear hOw q1 q2
   obtain⟨⟨l0,l1,l2,l3,l4⟩,_⟩:=cells5 G0.out
   obtain⟨⟨o0,o1,o2,o3,o4⟩,oz0,oz1,oz2,oz3,oz4⟩:=cells5 G2.out
   obtain⟨⟨r0,r1,r2,r3,r4⟩,rz0,rz1,rz2,rz3,rz4⟩:=cells5 G1.out
   have hsR:=lt_of_heap G1.out
   have nTO:¬ T=O:=by omega
   have nOT:¬ O=T:=by omega
   have nRO:¬ T+1=O:=by omega
   have nOR:¬ O=T+1:=by omega
   by_cases hr:rwd y.k=true
   ·obtain⟨ha,hwf,hro,hap⟩:=HY.out.row hr
    obtain⟨L,e,hL,hR⟩:=HS.out.row hwf hro HFS.out
    have cR:=fun X (hX:Fr [] W X)=>Lib.hid (hR X (HW.out.trans hX))
    have HL:=Lib.hid hL
    have hdon:don=[]:=by
     have:=congrArg List.length HDN.out
     rw[List.length_map,ha] at this
     exact List.length_eq_zero_iff.1 this
    have hZ:Z = .mk y.k y.v [] (apFs s L) e:=by rw[← HSZ.out,hap,hL.same,hL.end_]
    have HZE:=Lib.hid hZ
    have hszN:∀ f ∈ L,f.pr≠0→szT (ap s f.t)<N:=fun f hf h0=>by
     have h1:=szFs_lt (s:=s) hf (hL.fix f hf) h0
     have h3:=HN.out
     rw[hZ,szT] at h3
     omega
    have hwL:=(wfFs_iff G L).1 hL.wf
    have HSN:=Lib.hid hszN
    have HWL:=Lib.hid hwL
    have hk:((y.k==10)=true)∨((y.k==10)=false∧(y.k==11)=true):=by
     unfold rwd at hr
     cases h:(y.k==10)
     ·rw[h] at hr;exact .inr ⟨rfl,by simpa using hr⟩
     ·exact .inl rfl
    subst hdon
    clear hwf hro hap hR hL hZ hszN hwL hr HAP HDN
    rcases hk with hk|⟨hk,hk2⟩
    all_goals
     go_wp2_with fail
     refine(cR _ HF.out).out.mono ?_
     rintro e1 w6 ⟨l',A2,c2,rfl,hmap,hrow,f6⟩
     have hll:l'.length≤1099511627776:=by
      have:=congrArg List.length hmap
      rw[List.length_map] at this
      have:=HL.out.len
      omega
     have HMAP:=Lib.hid hmap
     have HLL:=Lib.hid hll
     have hG2:=f6.keep G2.out (fun x=>by cases x)
     have hG1:=f6.keep G1.out (fun x=>by cases x)
     have hZ:=heap_st2 hG2 (.slice A2 l'.length c2) (.int .i64 e)
     have hfr:=fr_st2 w6 O (.slice A2 l'.length c2) (.int .i64 e)
     have G1':=Lib.hid (hfr.keep hG1 (by simp;omega))
     have G2':=Lib.hid hZ
     have HF6:=Lib.hid ((HF.out.trans f6).step hfr (fun x hx => .inr (by simp at hx;omega)))
     have hru:(A2=none∧c2=0∧l'=[])∨∃ g,A2=some ⟨g,0,none⟩∧RowU (O+1) w P ((w6.setCell ⟨O,3,none⟩ (.slice A2 l'.length c2)).setCell ⟨O,4,none⟩ (.int .i64 e)) g [] l'∧l'.length≤c2:=by
      rcases hrow with h|⟨g,h1,h2,h3,h4⟩
      ·exact .inl h
      ·exact .inr ⟨g,h1,(RowU.start h3 (by omega)).keep hfr (fun x hx=>by simp at hx;omega),h4⟩
     have HRU:=Lib.hid hru
     obtain⟨⟨q0,q1,q2,q3,q4⟩,_⟩:=cells5 hZ
     obtain⟨_,pz0,pz1,pz2,pz3,pz4⟩:=cells5 hG2
     obtain⟨⟨p0,p1,p2,p3,p4⟩,_⟩:=cells5 hG2
     have hs6:=lt_of_heap hG2
     clear hmap hrow hll f6 cR l0 l1 l2 l3 l4 o0 o1 o2 o3 o4 oz0 oz1 oz2 oz3 oz4 r0 r1 r2 r3 r4 rz0 rz1 rz2 rz3 rz4 hZ hfr hG1 hG2 hru
     go_wp2_with fail
     generalize (w6.setCell ⟨O,3,none⟩ (.slice A2 l'.length c2)).setCell ⟨O,4,none⟩ (.int .i64 e)=w7 at *
     clear q0 q1 q2 q3 q4 p0 p1 p2 p3 p4 pz0 pz1 pz2 pz3 pz4
     go_loopw [51] (fun iv wr=>∃ (i:Nat) (dn rs:List FdM),iv = .int .i64 i∧i≤l'.length∧Hid (dn.length=i)∧Hid (rs=l'.drop i)∧Hid (dn.map (·.fd)=apFs s (L.take i))∧Hid ((A2=none∧c2=0∧l'=[])∨∃ g,A2=some ⟨g,0,none⟩∧RowU (O+1) w P wr g dn rs∧l'.length≤c2)∧
      Hid (wr.heap[T+1]?=some (.cells #[.int .i64 0,.int .i64 0,.slice none 0 0,.slice none 0 0,.int .i64 0] 27 (0,0)))∧Hid (wr.heap[O]?=some (.cells #[.int .i64 y.k,.int .i64 y.v,.slice A9 0 c9,.slice A2 l'.length c2,.int .i64 e] 27 (0,0)))∧Hid (Fr [] W wr)) (fun iv wr=>l'.length-(intOf iv).toNat)
     case atStart=>exact⟨0,[],l',rfl,by omega,Lib.hid rfl,Lib.hid rfl,Lib.hid rfl,HRU,G1',G2',HF6⟩
     case round =>
      obtain⟨i,dn,rs,rfl,hi,HDL,HRS,HDM,HRU,G1,G2,HF⟩:=hrel
      clear HF6 G1' G2'
      have q1:(0:Int)≤(i:Int):=by omega
      have hsO:=lt_of_heap G2.out
      have hll:=HLL.out
      by_cases hlt:i<l'.length
      ·have hx:l'[i]?=some l'[i]:=List.getElem?_eq_getElem hlt
       have hrs:rs=l'[i]::l'.drop (i+1):=by rw[HRS.out,List.drop_eq_getElem_cons hlt]
       generalize l'[i]=x at hx hrs
       have q2:(i:Int)<(l'.length:Int):=by omega
       have hfL:L[i]?=some x.fd:=by rw[← HMAP.out,List.getElem?_map,hx];rfl
       have hfm:=List.mem_of_getElem? hfL
       have hfix:=HL.out.fix x.fd hfm
       have hru:∃ g,A2=some ⟨g,0,none⟩∧RowU (O+1) w P wr g dn rs∧l'.length≤c2:=by
        rcases HRU.out with⟨_,_,h3⟩| h
        ·rw[h3] at hlt;simp at hlt
        ·exact h
       obtain⟨g,rfl,hru,hcap⟩:=hru
       rw[hrs] at hru
       have hgi:(dn++x::l'.drop (i+1))[i]?=some x:=by rw[← HDL.out,List.getElem?_append_right (Nat.le_refl _),Nat.sub_self];rfl
       obtain⟨⟨x0,x1,x2,x3,x4,x5,x6,x7⟩,_⟩:=hru.cells hgi
       have hgw:=hru.lt
       have hglo:=hru.lo
       have hwx:=HWL.out x.fd hfm
       have hxo:=hru.old x (by simp)
       have f7:=(Fr.refl [] wr).alloc (.cells #[.string ⟨x.fd.lb.toArray⟩,.int .i64 x.fd.pr,.int .i64 x.fd.p,.int .i64 x.fd.t.k,.int .i64 x.fd.t.v,.slice x.A x.fd.t.args.length x.c,.slice x.B x.fd.t.fs.length x.d,.int .i64 x.fd.t.rest] 44)
       have p7:=heap_new wr (.cells #[.string ⟨x.fd.lb.toArray⟩,.int .i64 x.fd.pr,.int .i64 x.fd.p,.int .i64 x.fd.t.k,.int .i64 x.fd.t.v,.slice x.A x.fd.t.args.length x.c,.slice x.B x.fd.t.fs.length x.d,.int .i64 x.fd.t.rest] 44)
       have hRU7:=hru.keep f7 (fun x hx=>by cases hx)
       have hdr:l'.drop (i+1)=l'.drop (i+1):=rfl
       have hap1:apFs s (L.take (i+1))=apFs s (L.take i)++[apF s x.fd]:=by
        rw[List.take_add_one,hfL,apFs_map,List.map_append,← apFs_map];rfl
       have HAP1:=Lib.hid hap1
       by_cases hp:x.fd.pr=0
       ·have hc3:(x.fd.pr==0)=true:=by simp[hp]
        have hc4:(x.fd.pr != 0)=false:=by simp[hp]
        have hzt:x.fd.t = .zero:=by
         rcases wfF_pre hwx with⟨_,_,h3⟩| ⟨h1,_⟩| ⟨h1,_⟩
         ·exact h3
         ·omega
         ·omega
        have hafd:apF s x.fd=x.fd:=by
         rw[apF_pre,hfix,if_pos hp]
         obtain⟨⟨lb,pr,p,tt⟩,_,_,_,_⟩:=x
         simp only at hp hzt ⊢
         rw[hp,hzt]
        have HN1:=Lib.hid (hRU7.skip hzt)
        have HDM':Hid ((dn++[x]).map (·.fd)=apFs s (L.take (i+1))):=Lib.hid (by rw[HAP1.out,hafd,List.map_append,HDM.out];rfl)
        have K1:=Lib.hid (f7.keep G1.out (fun x=>by cases x))
        have K2:=Lib.hid (f7.keep G2.out (fun x=>by cases x))
        have KF:=Lib.hid (HF.out.trans f7)
        clear hx hrs hfL hfm hfix hru hgi hwx hxo f7 p7 hRU7 hap1 hzt hafd hp hdr
        go_wp2_with fail
        go_roundw
        case rel=>exact⟨i+1,dn++[x],l'.drop (i+1),by first|rfl|simp|go_num,by omega,Lib.hid (by rw[List.length_append,HDL.out];rfl),Lib.hid rfl,HDM',Lib.hid (.inr ⟨g,rfl,HN1.out,hcap⟩),K1,K2,KF⟩
        case measure=>simp[intOf];omega
       ·have hc3:(x.fd.pr==0)=false:=beq_eq_false_iff_ne.2 hp
        have hc4:(x.fd.pr != 0)=true:=by simp[hp]
        have hwt:WfT G x.fd.t:=by
         rcases wfF_pre hwx with⟨h1,_⟩| ⟨_,_,h3⟩| ⟨_,_,_,h3⟩
         ·exact absurd h1 hp
         ·exact h3
         ·exact h3
        have hzN:=HSN.out x.fd hfm hp
        have cS:=fun X (hX:Fr [] W X)=>Lib.hid (IH.out w X P Q M0 M1 M2 G R s m ta tb x.fd.t x.A x.B x.c x.d hzN (HW.out.trans hX) HS.out hwt hxo.2)
        have hafd:apF s x.fd=⟨x.fd.lb,x.fd.pr,x.fd.p,ap s x.fd.t⟩:=by rw[apF_pre,hfix,if_neg hp]
        have HAFD:=Lib.hid hafd
        have HRU7:=Lib.hid hRU7
        have HGI:=Lib.hid hgi
        have K1:=Lib.hid (f7.keep G1.out (fun x=>by cases x))
        have K2:=Lib.hid (f7.keep G2.out (fun x=>by cases x))
        have KF:=Lib.hid (HF.out.trans f7)
        have hsw:=f7.size
        clear hx hrs hfL hfm hfix hru hgi hwx hxo f7 hRU7 hap1 hwt hafd hp hdr hzN
        go_wp2_with fail
        generalize wr.alloc (.cells #[.string ⟨x.fd.lb.toArray⟩,.int .i64 x.fd.pr,.int .i64 x.fd.p,.int .i64 x.fd.t.k,.int .i64 x.fd.t.v,.slice x.A x.fd.t.args.length x.c,.slice x.B x.fd.t.fs.length x.d,.int .i64 x.fd.t.rest] 44)=w8 at *
        generalize hC:wr.heap.size=C at *
        clear x0 x1 x2 x3 x4 x5 x6 x7
        obtain⟨⟨e0,e1,e2,e3,e4,e5,e6,e7⟩,_⟩:=cells8 p7
        obtain⟨⟨o0,o1,o2,o3,o4⟩,_⟩:=cells5 K2.out
        have hO8:=lt_of_heap K2.out
        have hC8:=lt_of_heap p7
        have hg8:=HRU7.out.lt
        have n1:¬ g=C:=by omega
        have n2:¬ g=O:=by omega
        have n3:¬ C=g:=by omega
        have n4:¬ O=g:=by omega
        go_region_held3 (fun w'=>w'.cell? ⟨O,3,none⟩=some (.slice (some ⟨g,0,none⟩) l'.length c2)∧w'.cell? ⟨C,3,none⟩=some (.int .i64 x.fd.t.k)∧w'.cell? ⟨C,4,none⟩=some (.int .i64 x.fd.t.v)∧w'.cell? ⟨C,5,none⟩=some (.slice x.A x.fd.t.args.length x.c)∧w'.cell? ⟨C,6,none⟩=some (.slice x.B x.fd.t.fs.length x.d)∧w'.cell? ⟨C,7,none⟩=some (.int .i64 x.fd.t.rest)) (first|go_keep|exact MM)
         ((first|((with_reducible refine(cS _ (KF.out.drew)).out.mono ?_);rintro e x6 ⟨A',c',B',d',rfl,hT6,f6⟩;have F6:=(Fr.refl [] w8).drew.trans f6;have Q6:=F6.keep p7 (fun x=>by cases x);have K6:=F6.keep K2.out (fun x=>by cases x);have MM:=(⟨(cells5 K6).1.2.2.2.1,(cells8 Q6).1.2.2.2.1,(cells8 Q6).1.2.2.2.2.1,(cells8 Q6).1.2.2.2.2.2.1,(cells8 Q6).1.2.2.2.2.2.2.1,(cells8 Q6).1.2.2.2.2.2.2.2⟩:_∧_∧_∧_∧_∧_);have HU6:=Lib.hid (HRU7.out.keep F6 (fun x hx=>by cases hx));have UC:=HU6.out.cells HGI.out;obtain⟨⟨v0,v1,v2,v3,v4,v5,v6,v7⟩,vz⟩:=UC;have z3:=vz (i * 8+3);have z4:=vz (i * 8+4);have z5:=vz (i * 8+5);have z6:=vz (i * 8+6);have z7:=vz (i * 8+7);have hg6:=HU6.out.lt;have hT6':TyAt x6 (fun b=>okW x6 b∧w8.heap.size≤b) P (ap s x.fd.t) _:=hT6)))
        all_goals
         have hTa:=hT6'.keep (w':=x6) (ok':=fun b=>(okW x6 b∧O+1≤b)∧b≠g) (fun b hb hlt=>⟨⟨⟨hb.1,by have:=hb.2;omega⟩,fun e=>by have:=hb.2;omega⟩,rfl,hlt⟩)
         obtain⟨hN1,hN2⟩:=HU6.out.turn hTa
         rw[HDL.out] at hN1 hN2
         have HN1:=Lib.hid hN1
         have HN2:=Lib.hid hN2
         have K1':=Lib.hid (hN2.keep (F6.keep K1.out (fun x=>by cases x)) (by simp;omega))
         have K2':=Lib.hid (hN2.keep K6 (by simp;omega))
         have KF':=Lib.hid ((KF.out.trans F6).step hN2 (fun x hx => .inr (by simp at hx;omega)))
         unfold st5o at HN1 HN2 K1' K2' KF'
         have HDM':Hid ((dn++[(⟨⟨x.fd.lb,x.fd.pr,x.fd.p,ap s x.fd.t⟩,A',c',B',d'⟩:FdM)]).map (·.fd)=apFs s (L.take (i+1))):=Lib.hid (by rw[HAP1.out,HAFD.out,List.map_append,HDM.out];rfl)
         clear hTa hN1 hN2 hT6 hT6' f6 F6 Q6 K6 MM v0 v1 v2 v3 v4 v5 v6 v7 vz z3 z4 z5 z6 z7 cS e0 e1 e2 e3 e4 e5 e6 e7 o0 o1 o2 o3 o4
         go_wp2_with fail
         go_roundw
         case rel=>exact⟨i+1,_,l'.drop (i+1),by first|rfl|simp|go_num,by omega,Lib.hid (by rw[List.length_append,HDL.out];rfl),Lib.hid rfl,HDM',Lib.hid (.inr ⟨g,rfl,HN1.out,hcap⟩),K1',K2',KF'⟩
         case measure=>simp[intOf];omega
      ·have q2:¬ (i:Int)<(l'.length:Int):=by omega
       have hil:i=l'.length:=by omega
       have hLl:L.length=l'.length:=by have:=congrArg List.length HMAP.out;rw[List.length_map] at this;omega
       have hrs0:rs=[]:=by rw[HRS.out];exact List.drop_eq_nil_of_le (by omega)
       have hdm:dn.map (·.fd)=apFs s L:=by rw[HDM.out,List.take_of_length_le (by omega)]
       have hfl:(apFs s L).length=l'.length:=by rw[apFs_map,List.length_map];exact hLl
       have hdl:dn.length=l'.length:=by rw[HDL.out];exact hil
       have hfs:FsAt wr (fun b=>okW wr b∧O+1≤b) P (.slice A2 (apFs s L).length c2) (apFs s L):=by
        rcases HRU.out with⟨h1,h2,h3⟩| ⟨g,h1,h2,h3⟩
        ·have:apFs s L=[]:=List.length_eq_zero_iff.1 (by rw[hfl,h3];rfl)
         rw[this];exact FsAt.nil _ _
        ·subst hrs0
         have h4:=h2.done (cap:=c2) (by rw[hdl];exact h3)
         rw[hdm,hdl] at h4
         rw[h1,hfl]
         exact h4
       have HFSR:=Lib.hid hfs
       have HFL:=Lib.hid hfl
       obtain⟨⟨o0,o1,o2,o3,o4⟩,_⟩:=cells5 G2.out
       obtain⟨⟨r0,r1,r2,r3,r4⟩,rz0,rz1,rz2,rz3,rz4⟩:=cells5 G1.out
       have hR5:=lt_of_heap G1.out
       clear hil hLl hrs0 hdm hfl hdl hfs
       go_wp2_with fail
       have hfr:Fr [T+1] wr (((((wr.setCell ⟨T+1,0,none⟩ (.int .i64 y.k)).setCell ⟨T+1,1,none⟩ (.int .i64 y.v)).setCell ⟨T+1,2,none⟩ (.slice A9 0 c9)).setCell ⟨T+1,3,none⟩ (.slice A2 l'.length c2)).setCell ⟨T+1,4,none⟩ (.int .i64 e)):=st5_fr wr (T+1) _ _ _ _ _
       refine bodyPost_ret (v:=.agg #[.int .i64 y.k,.int .i64 y.v,.slice A9 0 c9,.slice A2 l'.length c2,.int .i64 e]) ?_ rfl ⟨A9,c9,A2,c2,?_,?_,?_⟩
       ·simp[results,Tryz.f33,go_sem,r0,r1,r2,r3,r4]
       ·rw[HZE.out]
        simp only[TyT.k,TyT.v,TyT.args,TyT.fs,TyT.rest,List.length_nil]
        rw[HFL.out]
       ·rw[HZE.out]
        exact TyAt.iff.2 ⟨_,_,rfl,ArAt.nil _ _,HFSR.out.keep (fun b hb hlt=>⟨⟨okW_fr hfr hb.1 (by have:=hb.2;simp;omega) hlt,by have:=hb.2;omega⟩,hfr.block b hlt (by have:=hb.2;simp;omega),Nat.lt_of_lt_of_le hlt hfr.size⟩)⟩
       ·exact HF.out.step hfr (fun x hx => .inr (by simp at hx;omega))
   ·have hk10:(y.k==10)=false:=by unfold rwd at hr;simp at hr;simp[hr.1]
    have hk11:(y.k==11)=false:=by unfold rwd at hr;simp at hr;simp[hr.2]
    have hZ:Z = .mk y.k y.v (don.map (·.t)) [] 0:=by
     rw[← HSZ.out]
     by_cases hk1:y.k=1
     ·rw[(HY.out.var hk1).1,HDN.out]
      have:=(HY.out.var hk1).2.1
      rw[hk1,this];rfl
     ·rw[(HY.out.pln hk1 hr).2.2,HDN.out]
    have HZE:=Lib.hid hZ
    have HAD:=Lib.hid HAP.out.done
    clear hZ hr
    go_wp2_with fail
    have hfr:Fr [T+1] wr (((((wr.setCell ⟨T+1,0,none⟩ (.int .i64 y.k)).setCell ⟨T+1,1,none⟩ (.int .i64 y.v)).setCell ⟨T+1,2,none⟩ (.slice A9 don.length c9)).setCell ⟨T+1,3,none⟩ (.slice none 0 0)).setCell ⟨T+1,4,none⟩ (.int .i64 0)):=st5_fr wr (T+1) _ _ _ _ _
    refine bodyPost_ret (v:=.agg #[.int .i64 y.k,.int .i64 y.v,.slice A9 don.length c9,.slice none 0 0,.int .i64 0]) ?_ rfl ⟨A9,c9,none,0,?_,?_,?_⟩
    ·simp[results,Tryz.f33,go_sem,r0,r1,r2,r3,r4]
    ·rw[HZE.out]
     simp only[TyT.k,TyT.v,TyT.args,TyT.fs,TyT.rest,List.length_nil,List.length_map]
    ·rw[HZE.out]
     refine TyAt.iff.2 ⟨_,_,rfl,?_,FsAt.nil _ _⟩
     rw[show(TyT.mk y.k y.v (don.map (·.t)) [] 0).args=don.map (·.t)from rfl,List.length_map]
     exact HAD.out.keep (fun b hb hlt=>⟨⟨okW_fr hfr hb.1 (by have:=hb.2;simp;omega) hlt,by have:=hb.2;omega⟩,hfr.block b hlt (by have:=hb.2;simp;omega),Nat.lt_of_lt_of_le hlt hfr.size⟩)
    ·exact HF.out.step hfr (fun x hx => .inr (by simp at hx;omega))
theorem apply_all:∀ N,APC N
 | 0=>by intro _ _ _ _ _ _ _ _ _ _ _ _ _ _ _ _ _ _ h;exact absurd h (Nat.not_lt_zero _)
 | N+1=>apply_step N (apply_all N)
end
section
variable [LoB]
attribute [local instance] Ex.no
structure AppF (base:Nat)(P:List UInt8→Prop)(w:World)(A:Option Addr)(c:Nat)(l:List FdM):Prop where
 own:w.ownsRow 0 44 8 (.slice A l.length c) l.length (l.flatMap encF)
 lo:∀ g,(Value.slice A l.length c).ownBlock=some g→base≤g∧g<w.heap.size
 ok:∀ x ∈ l,P x.fd.lb∧TyAt w (fun b=>(okW w b∧base≤b)∧(Value.slice A l.length c).ownBlock≠some b) P x.fd.t [.int .i64 x.fd.t.k,.int .i64 x.fd.t.v,.slice x.A x.fd.t.args.length x.c,.slice x.B x.fd.t.fs.length x.d,.int .i64 x.fd.t.rest]
section
variable {base:Nat} {w w':World} {P:List UInt8→Prop} {A:Option Addr} {c:Nat} {l:List FdM}
theorem AppF.nil(base:Nat)(w:World)(P:List UInt8→Prop):AppF base P w none 0 []:=⟨⟨rfl,.inl ⟨rfl,rfl⟩⟩,fun g h=>(by cases h),fun x h=>(by cases h)⟩
theorem AppF.keep{L:List Nat}(h:AppF base P w A c l)(hf:Fr L w w')(hL:∀ x ∈ L,x<base):AppF base P w' A c l:=by
 refine⟨ownsRow_fr h.own hf (fun g e hg=>by have:=hL g hg;have:=(h.lo g e).1;omega),fun g e=>⟨(h.lo g e).1,Nat.lt_of_lt_of_le (h.lo g e).2 hf.size⟩,fun x hx=>⟨(h.ok x hx).1,(h.ok x hx).2.keep (fun b hb hlt=>?_)⟩⟩
 have hn:b ∉ L:=fun hb'=>by have:=hL b hb';have:=hb.1.2;omega
 exact⟨⟨⟨okW_fr hf hb.1.1 hn hlt,hb.1.2⟩,hb.2⟩,hf.block b hlt hn,Nat.lt_of_lt_of_le hlt hf.size⟩
theorem AppF.app(h:AppF base P w A c l){x:FdM}(hp:P x.fd.lb)(hx:TyAt w (fun b=>(okW w b∧base≤b)∧(Value.slice A l.length c).ownBlock≠some b) P x.fd.t [.int .i64 x.fd.t.k,.int .i64 x.fd.t.v,.slice x.A x.fd.t.args.length x.c,.slice x.B x.fd.t.fs.length x.d,.int .i64 x.fd.t.rest]){A':Option Addr}{c':Nat}(hb:base≤w.heap.size)(hown:w'.ownsRow 0 44 8 (.slice A' (l.length+1) c') (l.length+1) (l.flatMap encF++encF x))(hg:w.grownBy w' (Value.slice A l.length c).ownBlock)(hfp:FpOf (.slice A l.length c) (.slice A' (l.length+1) c') w.heap.size):
  AppF base P w' A' c' (l++[x]):=by
 have e1:(l++[x]).length=l.length+1:=by simp
 have e2:(l++[x]).flatMap encF=l.flatMap encF++encF x:=by simp
 have hsh:Sh w w' (fun b=>(okW w b∧base≤b)∧(Value.slice A l.length c).ownBlock≠some b) (fun b=>(okW w' b∧base≤b)∧(Value.slice A' (l.length+1) c').ownBlock≠some b):=fun b hb' hlt=>by
  have hk:=hg.block b hlt (fun e=>hb'.2 e.symm)
  obtain⟨cs,T,f,h1,h2⟩:=hb'.1.1
  refine⟨⟨⟨⟨cs,T,f,hk.trans h1,h2⟩,hb'.1.2⟩,fun e=>?_⟩,hk,Nat.lt_of_lt_of_le hlt hg.size⟩
  rcases hfp b e with h3|h3
  ·exact hb'.2 h3
  ·omega
 refine⟨by rw[e1,e2];exact hown,fun g e=>?_,fun z hz=>?_⟩
 ·rw[e1] at e
  refine⟨?_,?_⟩
  ·rcases hfp g e with h1|h1
   ·exact(h.lo g h1).1
   ·omega
  ·rcases hown.2 with⟨hv,_⟩| ⟨g',cap,cur,hv,_,h2,_⟩
   ·rw[hv] at e;cases e
   ·rw[hv] at e;cases e;exact lt_of_heap h2
 ·rw[e1]
  rcases List.mem_append.1 hz with h1|h1
  ·exact⟨(h.ok z h1).1,(h.ok z h1).2.keep hsh⟩
  ·rw[List.mem_singleton.1 h1];exact⟨hp,hx.keep hsh⟩
theorem AppF.done(h:AppF base P w A c l):FsAt w (fun b=>okW w b∧base≤b) P (.slice A l.length c) (l.map (·.fd)):=by
 have hsub:Sh w w (fun b=>(okW w b∧base≤b)∧(Value.slice A l.length c).ownBlock≠some b) (fun b=>okW w b∧base≤b):=fun b hb hlt=>⟨hb.1,rfl,hlt⟩
 refine⟨fun i=>match l[i]? with|some x=>hdF x.fd|none=>[],fun i=>match l[i]? with|some x=>[.int .i64 x.fd.t.k,.int .i64 x.fd.t.v,.slice x.A x.fd.t.args.length x.c,.slice x.B x.fd.t.fs.length x.d,.int .i64 x.fd.t.rest] | none=>[],?_,fun i f hi=>?_,fun i f hi=>?_⟩
 ·rcases h.own.2 with⟨hv,hn⟩| ⟨g,cap,cur,hv,_,h2,h3,_,h5,h6⟩
  ·refine .inl ⟨A,c,?_,by rw[List.length_map];exact hn⟩
   rw[hn]
  ·injection hv with h1 h1' h1''
   subst h1;subst h1''
   refine .inr ⟨g,0,c,by rw[List.length_map],⟨⟨cur,_,_,h2,fun c=>absurd c (by decide),id⟩,(h.lo g rfl).1⟩,(h.lo g rfl).2,by rw[List.length_map];exact h3,fun i hi=>?_⟩
   rw[List.length_map] at hi
   have e:l[i]?=some l[i]:=List.getElem?_eq_getElem hi
   dsimp only
   rw[e]
   refine⟨rfl,fun j v hv=>?_⟩
   have hj:j<8:=(List.getElem?_eq_some_iff.1 hv).1
   have hl8:(l.flatMap encF).length=l.length * 8:=flat_len l
   have:=World.ownsRow.cellAt h.own (i * 8+j) (by omega)
   rw[Nat.zero_add,this]
   exact flat_at e hv
 ·rw[List.getElem?_map] at hi
  cases e:l[i]? with
  | none=>rw[e] at hi;cases hi
  | some x =>
   rw[e] at hi
   simp at hi
   subst hi
   dsimp only
   rw[e]
   exact⟨rfl,(h.ok x (List.mem_of_getElem? e)).1⟩
 ·rw[List.getElem?_map] at hi
  cases e:l[i]? with
  | none=>rw[e] at hi;cases hi
  | some x =>
   rw[e] at hi
   simp at hi
   subst hi
   dsimp only
   rw[e]
   exact(h.ok x (List.mem_of_getElem? e)).2.keep hsub
end
theorem kcG{w w':World}{row:Option Nat}{p:Addr}{v:Value}(hg:w.grownBy w' row)(h:w.cell? p=some v)(hlt:p.block<w.heap.size)(hne:some p.block≠row):w'.cell? p=some v:=(World.cell?_of_block (w:=w) (hg.block p.block hlt hne)).trans h
end
section
variable [LoB]
attribute [local instance] Ex.no
structure NmA (w:World)(Nb Mb:Nat)(es:Array MapEntry):Prop where
 blk:w.heap[Nb]?=some (.cells #[.map (some Mb)] 72 (0,0))
 mp:∃ n,w.heap[Mb]?=some (.map es n)
theorem NmA.fr{w w':World}{Nb Mb:Nat}{es:Array MapEntry}(h:NmA w Nb Mb es)(hf:Fr [] w w'):NmA w' Nb Mb es:=by
 obtain⟨h1,n,h2⟩:=h
 exact⟨hf.keep h1 (fun x=>by cases x),n,hf.keep h2 (fun x=>by cases x)⟩
theorem NmA.lt{w:World}{Nb Mb:Nat}{es:Array MapEntry}(h:NmA w Nb Mb es):Nb<w.heap.size∧Mb<w.heap.size:=⟨lt_of_heap h.blk,by obtain⟨n,h2⟩:=h.mp;exact lt_of_heap h2⟩
theorem NmA.ne{w:World}{Nb Mb:Nat}{es:Array MapEntry}(h:NmA w Nb Mb es):Nb≠Mb:=fun e=>by
 obtain⟨n,h2⟩:=h.mp
 have:=h.blk
 rw[e,h2] at this;cases this
theorem pof_new{w:World}{Nb Mb:Nat}{es:Array MapEntry}(h:NmA w Nb Mb es){v:Int}(hno:Instr.findNow (.int .i64) (.int .i64 v) es.toList 0=some none)(hs:es.size≤100):
  Calls Tryz.prog 55 #[.pointer (some ⟨Nb,0,none⟩),.int .i64 v] w fun e w'=>e = .returned (.int .i64 ((es.size:Int)+1))∧∃ c:Nat,NmA w' Nb Mb (es.push ⟨.int .i64 v,.int .i64 ((es.size:Int)+1),c⟩)∧Fr [Mb] w w':=by
 obtain⟨n,hm⟩:=h.mp
 have hne:=h.ne
 have hnlt:=h.lt.1
 have c0:w.cell? ⟨Nb,0,none⟩=some (.map (some Mb)):=by rw[cell_of h.blk];rfl
 have hz0:=run_lookup_miss Tryz.underlying62 Tryz.underlying3 w Mb es n hm v (.int .i64 0) hno (zeroIntM _)
 have c0d:=kcJ (Fr.refl [] w).drew c0 hnlt
 have hput:=map_put Tryz.underlying62 Tryz.underlying3 (x:=w.drew) (v:=v) (.int .i64 ((es.size:Int)+1)) hm hno
 have hlen:∀ ty,(Builtin.len_ #[62] ty #[.map (some Mb)]).run Tryz.prog w.drew = .ok (.int .i64 (es.size:Int)) w.drew:=fun ty=>by
  have hm':w.drew.heap[Mb]?=some (.map es n):=hm
  simp[Builtin.len_,run_underlying Tryz.underlying62,MapKept.run_getObj_map hm',goInt,Result.andThen]
 have hwrap:IntKind.i64.wrap ((es.size:Int)+1)=(es.size:Int)+1:=IntWalk.i64_in _ (by omega)
 have fM:=mapW_fr w.drew Mb (.map (es.push ⟨.int .i64 v,.int .i64 ((es.size:Int)+1),n⟩) (n+1))
 have hM:=mapW_at (x:=w.drew) (.map (es.push ⟨.int .i64 v,.int .i64 ((es.size:Int)+1),n⟩) (n+1)) h.lt.2
 have c0m:=(fM.cell (p:=⟨Nb,0,none⟩) hnlt (by simp;exact hne)).trans c0d
 have hBm:=fM.keep (show w.drew.heap[Nb]?=_ from h.blk) (by simp;exact hne)
 have hfind:=find_push (k:=v) (n:=v) (u:=.int .i64 ((es.size:Int)+1)) (c:=n) hno
 rw[if_pos rfl] at hfind
 have hz1:=run_look1_hit Tryz.underlying62 Tryz.underlying3 _ Mb _ _ hM v (0+es.toList.length) (.int .i64 ((es.size:Int)+1)) (by simpa using hfind)
 have HF:=Lib.hid (((Fr.refl [Mb] w).drew).trans fM)
 have HM:=Lib.hid hM
 have HB:=Lib.hid hBm
 clear h fM hM hBm hfind
 go_enter Tryz.func55,Tryz.ntmps55
 go_upto_region 3 with(fail)
 refine wp_region_tail1 11 (fun w'=>w'=w.drew) (by kernel_rfl) (by kernel_rfl) rfl rfl (fun K hK hHeld=>?hsn)
 dsimp only[List.take]
 refine held_take (i:=0) (v:=?vn_0) rfl (by kernel_rfl) (by kernel_rfl) (by kernel_rfl) (fun _ _ _ h=>h) (Or.inl ⟨by rfl,?yn_0⟩) hHeld ?rn_0
 case yn_0 =>
  intro w' hSw
  have hw':w'=w.drew:=hSw
  subst hw'
  go_simp
  (try with_reducible rfl)
 (try simp only[Act.put,List.setIfInBounds_toArray,List.set_cons_zero,List.set_cons_succ])
 refine held_take (i:=1) (v:=?vn_1) rfl (by kernel_rfl) (by kernel_rfl) (by kernel_rfl) (fun _ _ _ h=>h) (Or.inl ⟨by rfl,?yn_1⟩) hHeld ?rn_1
 case yn_1 =>
  intro w' hSw
  have hw':w'=w.drew:=hSw
  subst hw'
  go_simp
  (try with_reducible rfl)
 (try simp only[Act.put,List.setIfInBounds_toArray,List.set_cons_zero,List.set_cons_succ])
 refine held_take (i:=2) (v:=?vn_2) rfl (by kernel_rfl) (by kernel_rfl) (by kernel_rfl) (fun _ _ _ h=>h) (Or.inl ⟨by rfl,?yn_2⟩) hHeld ?rn_2
 case yn_2 =>
  intro w' hSw
  have hw':w'=w.drew:=hSw
  subst hw'
  go_simp
  (try with_reducible rfl)
 (try simp only[Act.put,List.setIfInBounds_toArray,List.set_cons_zero,List.set_cons_succ])
 refine held_take (i:=3) (v:=?vn_3) rfl (by kernel_rfl) (by kernel_rfl) (by kernel_rfl) (fun _ _ _ h=>h) (Or.inl ⟨by rfl,?yn_3⟩) hHeld ?rn_3
 case yn_3 =>
  intro w' hSw
  have hw':w'=w.drew:=hSw
  subst hw'
  go_simp
  (try with_reducible rfl)
 (try simp only[Act.put,List.setIfInBounds_toArray,List.set_cons_zero,List.set_cons_succ])
 refine held_take (i:=4) (v:=?vn_4) rfl (by kernel_rfl) (by kernel_rfl) (by kernel_rfl) (fun _ _ _ h=>h) (Or.inl ⟨by rfl,?yn_4⟩) hHeld ?rn_4
 case yn_4 =>
  intro w' hSw
  have hw':w'=w.drew:=hSw
  subst hw'
  go_simp
  (try with_reducible rfl)
 (try simp only[Act.put,List.setIfInBounds_toArray,List.set_cons_zero,List.set_cons_succ])
 refine held_take (i:=5) (v:=?vn_5) rfl (by kernel_rfl) (by kernel_rfl) (by kernel_rfl) (fun _ _ _ h=>h) (Or.inl ⟨by rfl,?yn_5⟩) hHeld ?rn_5
 case yn_5 =>
  intro w' hSw
  have hw':w'=w.drew:=hSw
  subst hw'
  go_simp
  (try with_reducible rfl)
 (try simp only[Act.put,List.setIfInBounds_toArray,List.set_cons_zero,List.set_cons_succ])
 refine held_take (i:=6) (v:=?vn_6) rfl (by kernel_rfl) (by kernel_rfl) (by kernel_rfl) (fun _ _ _ h=>h) (Or.inl ⟨by rfl,?yn_6⟩) hHeld ?rn_6
 case yn_6 =>
  intro w' hSw
  have hw':w'=w.drew:=hSw
  subst hw'
  go_simp
  (try with_reducible rfl)
 (try simp only[Act.put,List.setIfInBounds_toArray,List.set_cons_zero,List.set_cons_succ])
 refine held_take (i:=7) (v:=?vn_7) rfl (by kernel_rfl) (by kernel_rfl) (by kernel_rfl) (fun _ _ _ h=>h) (Or.inl ⟨by rfl,?yn_7⟩) hHeld ?rn_7
 case yn_7 =>
  intro w' hSw
  have hw':w'=w.drew:=hSw
  subst hw'
  go_simp
  (try with_reducible rfl)
 (try simp only[Act.put,List.setIfInBounds_toArray,List.set_cons_zero,List.set_cons_succ])
 refine held_take (i:=8) (v:=?vn_8) rfl (by kernel_rfl) (by kernel_rfl) (by kernel_rfl) (fun _ _ _ h=>h) (Or.inl ⟨by rfl,?yn_8⟩) hHeld ?rn_8
 case yn_8 =>
  intro w' hSw
  have hw':w'=w.drew:=hSw
  subst hw'
  go_simp
  (try with_reducible rfl)
 (try simp only[Act.put,List.setIfInBounds_toArray,List.set_cons_zero,List.set_cons_succ])
 refine held_take (i:=9) (v:=?vn_9) rfl (by kernel_rfl) (by kernel_rfl) (by kernel_rfl) (fun _ _ _ h=>h) (Or.inl ⟨by rfl,?yn_9⟩) hHeld ?rn_9
 case yn_9 =>
  intro w' hSw
  have hw':w'=w.drew:=hSw
  subst hw'
  go_simp
  (try with_reducible rfl)
 (try simp only[Act.put,List.setIfInBounds_toArray,List.set_cons_zero,List.set_cons_succ])
 refine held_take (i:=10) (v:=?vn_10) rfl (by kernel_rfl) (by kernel_rfl) (by kernel_rfl) (fun _ _ _ h=>h) (Or.inl ⟨by rfl,?yn_10⟩) hHeld ?rn_10
 case yn_10 =>
  intro w' hSw
  have hw':w'=w.drew:=hSw
  subst hw'
  go_simp
  (try with_reducible rfl)
 (try simp only[Act.put,List.setIfInBounds_toArray,List.set_cons_zero,List.set_cons_succ])
 refine wpAnyH_done (by kernel_rfl) ?_ _
 refine thenLast_run rfl ?_
 go_simp
 refine hK.out _ _ ?_
 clear hK K
 go_wp2_with fail
 go_ret
 first|exact⟨by first|rfl|simp,⟨n,HB.out,_,HM.out⟩,HF.out⟩| exact⟨by first|rfl|simp,n,⟨HB.out,_,HM.out⟩,HF.out⟩
end
section
variable [LoB]
attribute [local instance] Ex.no
theorem pcanon_int{W:World}{k:Int}(hk:(k==1)=false){A B:Option Addr}{c d Nb:Nat}:Calls Tryz.prog 41 #[.pointer (some ⟨Nb,0,none⟩),.agg #[.int .i64 k,.int .i64 0,.slice A 0 c,.slice B 0 d,.int .i64 0]] W fun e w'=>e = .returned (.agg #[.int .i64 k,.int .i64 0,.slice none 0 0,.slice none 0 0,.int .i64 0])∧Fr [] W w':=by
 have f0:=(((Fr.refl [] W).alloc (.cells #[.int .i64 k,.int .i64 0,.slice A 0 c,.slice B 0 d,.int .i64 0] 27)).alloc (.cells #[.int .i64 0,.int .i64 0,.slice none 0 0,.slice none 0 0,.int .i64 0] 27)).alloc (.cells #[.int .i64 k,.int .i64 0,.slice none 0 0,.slice none 0 0,.int .i64 0] 27)
 have g0:=heap_old (heap_old (heap_new W (.cells #[.int .i64 k,.int .i64 0,.slice A 0 c,.slice B 0 d,.int .i64 0] 27)) (.cells #[.int .i64 0,.int .i64 0,.slice none 0 0,.slice none 0 0,.int .i64 0] 27)) (.cells #[.int .i64 k,.int .i64 0,.slice none 0 0,.slice none 0 0,.int .i64 0] 27)
 have g1:=heap_old (heap_new (W.alloc (.cells #[.int .i64 k,.int .i64 0,.slice A 0 c,.slice B 0 d,.int .i64 0] 27)) (.cells #[.int .i64 0,.int .i64 0,.slice none 0 0,.slice none 0 0,.int .i64 0] 27)) (.cells #[.int .i64 k,.int .i64 0,.slice none 0 0,.slice none 0 0,.int .i64 0] 27)
 have g2:=heap_new ((W.alloc (.cells #[.int .i64 k,.int .i64 0,.slice A 0 c,.slice B 0 d,.int .i64 0] 27)).alloc (.cells #[.int .i64 0,.int .i64 0,.slice none 0 0,.slice none 0 0,.int .i64 0] 27)) (.cells #[.int .i64 k,.int .i64 0,.slice none 0 0,.slice none 0 0,.int .i64 0] 27)
 rw[World.size_alloc] at g1
 rw[World.size_alloc,World.size_alloc] at g2
 obtain⟨⟨l0,l1,l2,l3,l4⟩,_⟩:=cells5 g0
 obtain⟨⟨k0,k1,k2,k3,k4⟩,kz0,kz1,kz2,kz3,kz4⟩:=cells5 g1
 obtain⟨⟨o0,o1,o2,o3,o4⟩,oz0,oz1,oz2,oz3,oz4⟩:=cells5 g2
 have hs0:=lt_of_heap g0
 have hs1:=lt_of_heap g1
 have hs2:=lt_of_heap g2
 have hzx:(((W.alloc (.cells #[.int .i64 k,.int .i64 0,.slice A 0 c,.slice B 0 d,.int .i64 0] 27)).alloc (.cells #[.int .i64 0,.int .i64 0,.slice none 0 0,.slice none 0 0,.int .i64 0] 27)).alloc (.cells #[.int .i64 k,.int .i64 0,.slice none 0 0,.slice none 0 0,.int .i64 0] 27)).heap.size=W.heap.size+1+1+1:=by rw[World.size_alloc,World.size_alloc,World.size_alloc]
 clear f0 g0 g1 g2
 go_enter Tryz.func41,Tryz.ntmps41
 go_wp2_with fail
 go_loopw [24] (fun iv wr=>iv = .int .i64 0∧wr=(((W.alloc (.cells #[.int .i64 k,.int .i64 0,.slice A 0 c,.slice B 0 d,.int .i64 0] 27)).alloc (.cells #[.int .i64 0,.int .i64 0,.slice none 0 0,.slice none 0 0,.int .i64 0] 27)).alloc (.cells #[.int .i64 k,.int .i64 0,.slice none 0 0,.slice none 0 0,.int .i64 0] 27))) (fun iv wr=>0)
 case atStart=>exact⟨rfl,rfl⟩
 case round =>
  obtain⟨rfl,rfl⟩:=hrel
  go_wp2_with fail
  go_loopw [41] (fun iv wq=>iv = .int .i64 0∧wq=(((W.alloc (.cells #[.int .i64 k,.int .i64 0,.slice A 0 c,.slice B 0 d,.int .i64 0] 27)).alloc (.cells #[.int .i64 0,.int .i64 0,.slice none 0 0,.slice none 0 0,.int .i64 0] 27)).alloc (.cells #[.int .i64 k,.int .i64 0,.slice none 0 0,.slice none 0 0,.int .i64 0] 27))) (fun iv wq=>0)
  case atStart=>exact⟨rfl,rfl⟩
  case round =>
   obtain⟨rfl,rfl⟩:=hrel
   go_wp2_with fail
   refine bodyPost_ret (v:=.agg #[.int .i64 k,.int .i64 0,.slice none 0 0,.slice none 0 0,.int .i64 0]) ?_ rfl ?_
   ·simp[results,Tryz.f41,go_sem]
   ·exact⟨rfl,(((Fr.refl [] W).alloc _).alloc _).alloc _⟩
theorem pcanon_var{W:World}{v:Int}{A B:Option Addr}{c d Nb Mb:Nat}{es:Array MapEntry}(h:NmA W Nb Mb es)(hno:Instr.findNow (.int .i64) (.int .i64 v) es.toList 0=some none)(hs:es.size≤100):Calls Tryz.prog 41 #[.pointer (some ⟨Nb,0,none⟩),.agg #[.int .i64 1,.int .i64 v,.slice A 0 c,.slice B 0 d,.int .i64 0]] W fun e w'=>e = .returned (.agg #[.int .i64 1,.int .i64 ((es.size:Int)+1),.slice none 0 0,.slice none 0 0,.int .i64 0])∧(∃ c:Nat,NmA w' Nb Mb (es.push ⟨.int .i64 v,.int .i64 ((es.size:Int)+1),c⟩))∧Fr [Mb] W w':=by
 have f0:=(((Fr.refl [] W).alloc (.cells #[.int .i64 1,.int .i64 v,.slice A 0 c,.slice B 0 d,.int .i64 0] 27)).alloc (.cells #[.int .i64 0,.int .i64 0,.slice none 0 0,.slice none 0 0,.int .i64 0] 27)).alloc (.cells #[.int .i64 1,.int .i64 0,.slice none 0 0,.slice none 0 0,.int .i64 0] 27)
 have g0:=heap_old (heap_old (heap_new W (.cells #[.int .i64 1,.int .i64 v,.slice A 0 c,.slice B 0 d,.int .i64 0] 27)) (.cells #[.int .i64 0,.int .i64 0,.slice none 0 0,.slice none 0 0,.int .i64 0] 27)) (.cells #[.int .i64 1,.int .i64 0,.slice none 0 0,.slice none 0 0,.int .i64 0] 27)
 have g1:=heap_old (heap_new (W.alloc (.cells #[.int .i64 1,.int .i64 v,.slice A 0 c,.slice B 0 d,.int .i64 0] 27)) (.cells #[.int .i64 0,.int .i64 0,.slice none 0 0,.slice none 0 0,.int .i64 0] 27)) (.cells #[.int .i64 1,.int .i64 0,.slice none 0 0,.slice none 0 0,.int .i64 0] 27)
 have g2:=heap_new ((W.alloc (.cells #[.int .i64 1,.int .i64 v,.slice A 0 c,.slice B 0 d,.int .i64 0] 27)).alloc (.cells #[.int .i64 0,.int .i64 0,.slice none 0 0,.slice none 0 0,.int .i64 0] 27)) (.cells #[.int .i64 1,.int .i64 0,.slice none 0 0,.slice none 0 0,.int .i64 0] 27)
 rw[World.size_alloc] at g1
 rw[World.size_alloc,World.size_alloc] at g2
 obtain⟨⟨l0,l1,l2,l3,l4⟩,_⟩:=cells5 g0
 obtain⟨⟨k0,k1,k2,k3,k4⟩,kz0,kz1,kz2,kz3,kz4⟩:=cells5 g1
 obtain⟨⟨o0,o1,o2,o3,o4⟩,oz0,oz1,oz2,oz3,oz4⟩:=cells5 g2
 have hs0:=lt_of_heap g0
 have hs1:=lt_of_heap g1
 have hs2:=lt_of_heap g2
 have hzx:(((W.alloc (.cells #[.int .i64 1,.int .i64 v,.slice A 0 c,.slice B 0 d,.int .i64 0] 27)).alloc (.cells #[.int .i64 0,.int .i64 0,.slice none 0 0,.slice none 0 0,.int .i64 0] 27)).alloc (.cells #[.int .i64 1,.int .i64 0,.slice none 0 0,.slice none 0 0,.int .i64 0] 27)).heap.size=W.heap.size+1+1+1:=by rw[World.size_alloc,World.size_alloc,World.size_alloc]
 have cO:=Lib.hid (pof_new (h.fr f0) hno hs)
 have hlt:=h.lt
 have hnb:=h.ne
 have HF0:=Lib.hid f0
 have G0:=Lib.hid g0
 have G1:=Lib.hid g1
 have G2:=Lib.hid g2
 obtain⟨m,hm⟩:∃ m:Int,m=(es.size:Int)+1:=⟨_,rfl⟩
 rw[← hm] at cO ⊢
 clear h f0 g0 g1 g2 hno hm
 go_enter Tryz.func41,Tryz.ntmps41
 go_wp2_with fail
 refine cO.out.mono ?_
 rintro e w6 ⟨rfl,cc,hn6,f6⟩
 have j0:=f6.keep G0.out (by simp;omega)
 have j1:=f6.keep G1.out (by simp;omega)
 have j2:=f6.keep G2.out (by simp;omega)
 have hs6:=f6.size
 clear l0 l1 l2 l3 l4 k0 k1 k2 k3 k4 kz0 kz1 kz2 kz3 kz4 o0 o1 o2 o3 o4 oz0 oz1 oz2 oz3 oz4 hs0 hs1 hs2
 have fO:=(Fr.refl [W.heap.size+1+1] w6).setCell (p:=⟨W.heap.size+1+1,1,none⟩) (.inl (by simp)) (.int .i64 m)
 have q1:=fO.keep j1 (by simp)
 obtain⟨⟨o0,o1,o2,o3,o4⟩,oz0,oz1,oz2,oz3,oz4⟩:=cells5 j2
 obtain⟨⟨k0,k1,k2,k3,k4⟩,kz0,kz1,kz2,kz3,kz4⟩:=cells5 j1
 obtain⟨⟨l0,l1,l2,l3,l4⟩,_⟩:=cells5 j0
 have hs0:=lt_of_heap j0
 have hs1:=lt_of_heap j1
 have hs2:=lt_of_heap j2
 have hfr:=st5_fr (w6.setCell ⟨W.heap.size+1+1,1,none⟩ (.int .i64 m)) (W.heap.size+1) (.int .i64 1) (.int .i64 m) (.slice none 0 0) (.slice none 0 0) (.int .i64 0)
 have hh:=(cells5 (st5_heap q1 (.int .i64 1) (.int .i64 m) (.slice none 0 0) (.slice none 0 0) (.int .i64 0))).1
 have f7:Fr [W.heap.size+1+1,W.heap.size+1] w6 _:=(fO.mono (L':=[W.heap.size+1+1,W.heap.size+1]) (fun x hx => .inl (by simp at hx;simp[hx]))).trans (hfr.mono (fun x hx => .inl (by simp at hx;simp[hx])))
 have hff:Fr [Mb] W _:=((HF0.out.mono (L':=[Mb]) (fun x hx=>by cases hx)).trans f6).step f7 (fun x hx => .inr (by simp at hx;omega))
 have hnm:∃ c:Nat,NmA _ Nb Mb (es.push ⟨.int .i64 v,.int .i64 m,c⟩):=⟨cc,by
  obtain⟨b1,n,b2⟩:=hn6
  exact⟨f7.keep b1 (by simp;omega),n,f7.keep b2 (by simp;omega)⟩⟩
 unfold st5 at hh hff hnm
 have HRR:=Lib.hid hh
 have HFF:=Lib.hid hff
 have HNM:=Lib.hid hnm
 have n1:¬ W.heap.size+1=W.heap.size+1+1:=by omega
 have n2:¬ W.heap.size+1+1=W.heap.size+1:=by omega
 have n3:¬ W.heap.size=W.heap.size+1+1:=by omega
 have n4:¬ W.heap.size+1+1=W.heap.size:=by omega
 clear hh hff hnm hfr fO q1 f7 j0 j1 j2 f6 hn6 cO
 go_wp2_with fail
 go_loopw [24] (fun iv wr=>iv = .int .i64 0∧wr=w6.setCell ⟨W.heap.size+1+1,1,none⟩ (.int .i64 m)) (fun iv wr=>0)
 case atStart=>exact⟨rfl,rfl⟩
 case round =>
  obtain⟨rfl,rfl⟩:=hrel
  go_wp2_with fail
  go_loopw [41] (fun iv wq=>iv = .int .i64 0∧wq=w6.setCell ⟨W.heap.size+1+1,1,none⟩ (.int .i64 m)) (fun iv wq=>0)
  case atStart=>exact⟨rfl,rfl⟩
  case round =>
   obtain⟨rfl,rfl⟩:=hrel
   go_wp2_with fail
   obtain⟨r0,r1,r2,r3,r4⟩:=HRR.out
   refine bodyPost_ret (v:=.agg #[.int .i64 1,.int .i64 m,.slice none 0 0,.slice none 0 0,.int .i64 0]) ?_ rfl ?_
   ·simp[results,Tryz.f41,go_sem,r0,r1,r2,r3,r4]
   ·exact⟨rfl,HNM.out,HFF.out⟩
end
section
variable [LoB]
attribute [local instance] Ex.no
def fsI(u:Int):List Fd:=[⟨[97],1,0,.mk 2 0 [] [] 0⟩,⟨[98],1,0,.mk 1 u [] [] 0⟩]
def StI(u:Int)(i:Nat)(es:Array MapEntry):Prop:=if i≤1 then es = #[] else ∃ c:Nat,es = #[⟨.int .i64 u,.int .i64 1,c⟩]
theorem fsI_at{u:Int}{i:Nat}(hi:i<2):∃ (lb:List UInt8)(k v k' v':Int),(fsI u)[i]?=some ⟨lb,1,0,.mk k v [] [] 0⟩∧(fsI 1)[i]?=some ⟨lb,1,0,.mk k' v' [] [] 0⟩∧(lb=[97]∨lb=[98])∧
  ∀ (es:Array MapEntry) (X:World) (A B:Option Addr) (c d Nb Mb:Nat),StI u i es→NmA X Nb Mb es→Calls Tryz.prog 41 #[.pointer (some ⟨Nb,0,none⟩),.agg #[.int .i64 k,.int .i64 v,.slice A 0 c,.slice B 0 d,.int .i64 0]] X fun e w'=>e = .returned (.agg #[.int .i64 k',.int .i64 v',.slice none 0 0,.slice none 0 0,.int .i64 0])∧(∃ es',StI u (i+1) es'∧NmA w' Nb Mb es')∧Fr [Mb] X w':=by
 have h:i=0∨i=1:=by omega
 rcases h with rfl|rfl
 ·refine⟨[97],2,0,2,0,rfl,rfl,.inl rfl,fun es X A B c d Nb Mb hs hn=>?_⟩
  refine(pcanon_int (k:=2) (by decide)).mono ?_
  rintro e w' ⟨rfl,f⟩
  exact⟨rfl,⟨es,hs,hn.fr f⟩,f.mono (fun x hx=>by cases hx)⟩
 ·refine⟨[98],1,u,1,1,rfl,rfl,.inr rfl,fun es X A B c d Nb Mb hs hn=>?_⟩
  have he:es = #[]:=hs
  subst he
  refine(pcanon_var hn rfl (by decide)).mono ?_
  rintro e w' ⟨rfl,⟨cc,h1⟩,f⟩
  exact⟨rfl,⟨_,⟨cc,rfl⟩,h1⟩,f⟩
theorem tyAt_nil(w:World)(ok:Nat→Prop)(P:List UInt8→Prop)(k v:Int)(A B:Option Addr)(c d:Nat):TyAt w ok P (.mk k v [] [] 0) [.int .i64 k,.int .i64 v,.slice A 0 c,.slice B 0 d,.int .i64 0]:=TyAt.iff.2 ⟨_,_,rfl,.nil _ _,.nil _ _⟩
theorem pcanon_row{w W:World}{ok:Nat→Prop}{P:List UInt8→Prop}{u rest:Int}{A B:Option Addr}{c d Nb Mb:Nat}(hur:u≠rest)(hr:0<rest)(hW:Fr [] w W)(hfs:FsAt w ok P (.slice B 2 d) (fsI u))(hwn:w.heap.size≤Mb)(h:NmA W Nb Mb #[]):
  Calls Tryz.prog 41 #[.pointer (some ⟨Nb,0,none⟩),.agg #[.int .i64 10,.int .i64 0,.slice A 0 c,.slice B 2 d,.int .i64 rest]] W fun e w'=>∃ (F9:Option Addr) (f9:Nat),e = .returned (.agg #[.int .i64 10,.int .i64 0,.slice none 0 0,.slice F9 2 f9,.int .i64 2])∧FsAt w' (fun b=>okW w' b∧W.heap.size≤b) P (.slice F9 2 f9) (fsI 1)∧Fr [Mb] W w':=by
 have f0:=(((Fr.refl [] W).alloc (.cells #[.int .i64 10,.int .i64 0,.slice A 0 c,.slice B 2 d,.int .i64 rest] 27)).alloc (.cells #[.int .i64 0,.int .i64 0,.slice none 0 0,.slice none 0 0,.int .i64 0] 27)).alloc (.cells #[.int .i64 10,.int .i64 0,.slice none 0 0,.slice none 0 0,.int .i64 0] 27)
 have g0:=heap_old (heap_old (heap_new W (.cells #[.int .i64 10,.int .i64 0,.slice A 0 c,.slice B 2 d,.int .i64 rest] 27)) (.cells #[.int .i64 0,.int .i64 0,.slice none 0 0,.slice none 0 0,.int .i64 0] 27)) (.cells #[.int .i64 10,.int .i64 0,.slice none 0 0,.slice none 0 0,.int .i64 0] 27)
 have g1:=heap_old (heap_new (W.alloc (.cells #[.int .i64 10,.int .i64 0,.slice A 0 c,.slice B 2 d,.int .i64 rest] 27)) (.cells #[.int .i64 0,.int .i64 0,.slice none 0 0,.slice none 0 0,.int .i64 0] 27)) (.cells #[.int .i64 10,.int .i64 0,.slice none 0 0,.slice none 0 0,.int .i64 0] 27)
 have g2:=heap_new ((W.alloc (.cells #[.int .i64 10,.int .i64 0,.slice A 0 c,.slice B 2 d,.int .i64 rest] 27)).alloc (.cells #[.int .i64 0,.int .i64 0,.slice none 0 0,.slice none 0 0,.int .i64 0] 27)) (.cells #[.int .i64 10,.int .i64 0,.slice none 0 0,.slice none 0 0,.int .i64 0] 27)
 rw[World.size_alloc] at g1
 rw[World.size_alloc,World.size_alloc] at g2
 obtain⟨j0,hj,hy0,hy1,hy2⟩:=info_parts infoFd
 have HJ:=Lib.hid hj
 have HY0:=Lib.hid hy0
 have HY1:=Lib.hid hy1
 have HY2:=Lib.hid hy2
 have hlt:=h.lt
 have hnb:=h.ne
 have HNM:=Lib.hid (h.fr f0)
 have HF0:=Lib.hid f0
 have HG0:=Lib.hid g0
 have HG1:=Lib.hid g1
 have HG2:=Lib.hid g2
 have HW:=Lib.hid hW
 have HFS:=Lib.hid hfs
 have hPa:P [97]:=hfs.lab ⟨[97],1,0,.mk 2 0 [] [] 0⟩ (by simp[fsI])
 have hPb:P [98]:=hfs.lab ⟨[98],1,0,.mk 1 u [] [] 0⟩ (by simp[fsI])
 have HPP:=Lib.hid (And.intro hPa hPb)
 have hww:=hW.size
 have HUR:=Lib.hid hur
 have HST0:Hid (StI u 0 #[]):=Lib.hid rfl
 obtain⟨⟨l0,l1,l2,l3,l4⟩,_⟩:=cells5 g0
 have hs0:=lt_of_heap g0
 have hs2:=lt_of_heap g2
 clear hj hy0 hy1 hy2 hfs hW hPa hPb f0 g0 g1 g2 h hur
 have hszx:(((W.alloc (.cells #[.int .i64 10,.int .i64 0,.slice A 0 c,.slice B 2 d,.int .i64 rest] 27)).alloc (.cells #[.int .i64 0,.int .i64 0,.slice none 0 0,.slice none 0 0,.int .i64 0] 27)).alloc (.cells #[.int .i64 10,.int .i64 0,.slice none 0 0,.slice none 0 0,.int .i64 0] 27)).heap.size=W.heap.size+1+1+1:=by rw[World.size_alloc,World.size_alloc,World.size_alloc]
 obtain⟨T0,hT0⟩:∃ T0,T0=W.heap.size:=⟨_,rfl⟩
 rw[← hT0]
 have HT0:=Lib.hid hT0
 clear hT0
 go_enter Tryz.func41,Tryz.ntmps41
 go_upto_if 15 with(fail)
 have hTT:W.heap.size=T0:=HT0.out.symm
 generalize (((W.alloc (.cells #[.int .i64 10,.int .i64 0,.slice A 0 c,.slice B 2 d,.int .i64 rest] 27)).alloc (.cells #[.int .i64 0,.int .i64 0,.slice none 0 0,.slice none 0 0,.int .i64 0] 27)).alloc (.cells #[.int .i64 10,.int .i64 0,.slice none 0 0,.slice none 0 0,.int .i64 0] 27))=x at *
 rw[hTT]
 rw[hTT] at HG0 HG1 HG2 l0 l1 l2 l3 l4 hs0 hs2 hlt
 obtain⟨⟨o0,o1,o2,o3,o4⟩,oz0,oz1,oz2,oz3,oz4⟩:=cells5 HG2.out
 have n1:¬ T0=T0+1+1:=by omega
 have n2:¬ T0+1+1=T0:=by omega
 have n3:¬ T0+1=T0+1+1:=by omega
 have n4:¬ T0+1+1=T0+1:=by omega
 have HA0:=Lib.hid (AppF.nil (T0+3) x P)
 have HX0:=Lib.hid (Fr.refl [Mb,T0+1+1] x)
 have HSX:Hid (x.heap.size=T0+3):=Lib.hid (by omega)
 go_wp2_with fail
 go_loopw [24] (fun iv wr=>iv = .int .i64 0∧wr=x) (fun iv wr=>0)
 case atStart=>exact⟨rfl,rfl⟩
 case round =>
  obtain⟨rfl,rfl⟩:=hrel
  go_wp2_with fail
  obtain⟨x,hx⟩:∃ x,x=wr:=⟨_,rfl⟩
  rw[← hx] at HX0 HF0 HSX
  go_loopw [41] (fun iv wr=>∃ (i:Nat) (dn:List FdM) (F9:Option Addr) (f9:Nat) (es:Array MapEntry),iv = .int .i64 i∧i≤2∧Hid (wr.heap[T0]?=some (.cells #[.int .i64 10,.int .i64 0,.slice A 0 c,.slice B 2 d,.int .i64 rest] 27 (0,0)))∧Hid (wr.heap[T0+1]?=some (.cells #[.int .i64 0,.int .i64 0,.slice none 0 0,.slice none 0 0,.int .i64 0] 27 (0,0)))∧
   Hid (wr.heap[T0+1+1]?=some (.cells #[.int .i64 10,.int .i64 0,.slice none 0 0,.slice F9 dn.length f9,.int .i64 0] 27 (0,0)))∧Hid (dn.map (·.fd)=(fsI 1).take i)∧Hid (AppF (T0+3) P wr F9 f9 dn)∧Hid (StI u i es)∧Hid (NmA wr Nb Mb es)∧Hid (Fr [Mb,T0+1+1] x wr)) (fun iv wr=>2-(intOf iv).toNat)
  case atStart=>exact⟨0,[],none,0,#[],rfl,by omega,HG0,HG1,HG2,Lib.hid rfl,HA0,HST0,HNM,by rw[hx] at HX0 ⊢;exact HX0⟩
  case round =>
   clear HG0 HG1 HG2 HA0 HST0 HNM l0 l1 l2 l3 l4 o0 o1 o2 o3 o4 oz0 oz1 oz2 oz3 oz4 hs0 hs2 hx
   obtain⟨i,dn,F9,f9,es,rfl,hi,G0,G1,G2,HDF,HAF,HST,HNM,HF2⟩:=hrel
   have q1:(0:Int)≤(i:Int):=by omega
   have hsO:=lt_of_heap G2.out
   have hsT:=lt_of_heap G0.out
   obtain⟨⟨l0,l1,l2,l3,l4⟩,_⟩:=cells5 G0.out
   obtain⟨⟨o0,o1,o2,o3,o4⟩,oz0,oz1,oz2,oz3,oz4⟩:=cells5 G2.out
   have hdl:dn.length≤2:=by
    have h1:=congrArg List.length HDF.out
    rw[List.length_map,List.length_take] at h1
    simp[fsI] at h1
    omega
   by_cases hlt2:i<2
   ·have q2:(i:Int)<2:=by omega
    have q2':(i:Int)<((2:Nat):Int):=by omega
    obtain⟨lb,k,v,k',v',hx,hx',hlb,cS⟩:=fsI_at (u:=u) hlt2
    have fw:Fr [] w wr:=(HW.out.trans HF0.out).step HF2.out (fun x hx => .inr (by simp at hx;omega))
    obtain⟨gb,og,rfl,hok,hgb,Bf,df,Df,ef,hty,x0,x1,x2,x3,x4,x5,x6,x7⟩:=HFS.out.at hx
    simp only[TyT.k,TyT.v,TyT.args,TyT.fs,TyT.rest,List.length_nil] at x3 x4 x5 x6 x7
    replace x0:=(fw.cell (p:=⟨gb,og+i * 8,none⟩) hgb (fun x=>by cases x)).trans x0
    replace x1:=(fw.cell (p:=⟨gb,og+i * 8+1,none⟩) hgb (fun x=>by cases x)).trans x1
    replace x2:=(fw.cell (p:=⟨gb,og+i * 8+2,none⟩) hgb (fun x=>by cases x)).trans x2
    replace x3:=(fw.cell (p:=⟨gb,og+i * 8+3,none⟩) hgb (fun x=>by cases x)).trans x3
    replace x4:=(fw.cell (p:=⟨gb,og+i * 8+4,none⟩) hgb (fun x=>by cases x)).trans x4
    replace x5:=(fw.cell (p:=⟨gb,og+i * 8+5,none⟩) hgb (fun x=>by cases x)).trans x5
    replace x6:=(fw.cell (p:=⟨gb,og+i * 8+6,none⟩) hgb (fun x=>by cases x)).trans x6
    replace x7:=(fw.cell (p:=⟨gb,og+i * 8+7,none⟩) hgb (fun x=>by cases x)).trans x7
    have hgw:gb<wr.heap.size:=Nat.lt_of_lt_of_le hgb fw.size
    have hPl:P lb:=by rcases hlb with e|e <;> rw[e];exact HPP.out.1;exact HPP.out.2
    have f7:=(Fr.refl [] wr).alloc (.cells #[.string ⟨lb.toArray⟩,.int .i64 1,.int .i64 0,.int .i64 k,.int .i64 v,.slice Bf 0 df,.slice Df 0 ef,.int .i64 0] 44)
    have p7:=heap_new wr (.cells #[.string ⟨lb.toArray⟩,.int .i64 1,.int .i64 0,.int .i64 k,.int .i64 v,.slice Bf 0 df,.slice Df 0 ef,.int .i64 0] 44)
    have hz7:=World.size_alloc wr (.cells #[.string ⟨lb.toArray⟩,.int .i64 1,.int .i64 0,.int .i64 k,.int .i64 v,.slice Bf 0 df,.slice Df 0 ef,.int .i64 0] 44)
    have cM:=Lib.hid (cS es _ Bf Df df ef Nb Mb HST.out (HNM.out.fr f7))
    have HX:=Lib.hid hx'
    have HPL:=Lib.hid hPl
    have F7:=Lib.hid f7
    have P7:=Lib.hid p7
    have hnl:=HNM.out.lt
    obtain⟨⟨y0,y1,y2,y3,y4,y5,y6,y7⟩,yz0,yz1,yz2,yz3,yz4,yz5,yz6,yz7⟩:=cells8 p7
    have hp7:=lt_of_heap p7
    clear hx hx' hlb cS hok hty fw f7 p7 hPl
    go_wp2_with fail
    generalize wr.alloc (.cells #[.string ⟨lb.toArray⟩,.int .i64 1,.int .i64 0,.int .i64 k,.int .i64 v,.slice Bf 0 df,.slice Df 0 ef,.int .i64 0] 44)=w7 at *
    generalize hC:wr.heap.size=C at *
    refine cM.out.mono ?_
    rintro e w9 ⟨rfl,⟨es',hst',hnm'⟩,f9'⟩
    have hcm:C ∉ [Mb]:=by simp;omega
    have p9h:=f9'.keep P7.out hcm
    obtain⟨⟨b0,b1,b2,b3,b4,b5,b6,b7⟩,bz0,bz1,bz2,bz3,bz4,bz5,bz6,bz7⟩:=cells8 p9h
    have hC9:=lt_of_heap p9h
    have fO:Fr [C] w9 (st5o w9 C 3 (.int .i64 k') (.int .i64 v') (.slice none 0 0) (.slice none 0 0) (.int .i64 0)):=((((((Fr.refl [C] w9).setCell (p:=⟨C,3,none⟩) (.inl (by simp)) _).setCell (p:=⟨C,3+1,none⟩) (.inl (by simp)) _).setCell (p:=⟨C,3+2,none⟩) (.inl (by simp)) _).setCell (p:=⟨C,3+3,none⟩) (.inl (by simp)) _).setCell (p:=⟨C,3+4,none⟩) (.inl (by simp)) _)
    have P9:Hid ((st5o w9 C 3 (.int .i64 k') (.int .i64 v') (.slice none 0 0) (.slice none 0 0) (.int .i64 0)).heap[C]?=some (.cells #[.string ⟨lb.toArray⟩,.int .i64 1,.int .i64 0,.int .i64 k',.int .i64 v',.slice none 0 0,.slice none 0 0,.int .i64 0] 44 (0,0))):=Lib.hid (by simp[st5o,World.setCell,Array.getElem?_modify,p9h])
    have F9w:Fr [Mb] wr (st5o w9 C 3 (.int .i64 k') (.int .i64 v') (.slice none 0 0) (.slice none 0 0) (.int .i64 0)):=((F7.out.mono (L':=[Mb]) (fun x hx=>by cases hx)).trans f9').step fO (fun x hx => .inr (by simp at hx;omega))
    have NM9:=Lib.hid (show NmA (st5o w9 C 3 (.int .i64 k') (.int .i64 v') (.slice none 0 0) (.slice none 0 0) (.int .i64 0)) Nb Mb es' from by
     obtain⟨b1,n,b2⟩:=hnm'
     exact⟨fO.keep b1 (by simp;omega),n,fO.keep b2 (by simp;omega)⟩)
    have hO:=F9w.keep G2.out (by simp;omega)
    have hT:=F9w.keep G0.out (by simp;omega)
    have hR:=F9w.keep G1.out (by simp;omega)
    have hAF:=HAF.out.keep F9w (fun x hx=>by simp at hx;omega)
    have HO:=Lib.hid hO
    have HT:=Lib.hid hT
    have HR:=Lib.hid hR
    have HAF9:=Lib.hid hAF
    have F9W:=Lib.hid F9w
    have HST':=Lib.hid hst'
    clear cM hnm' hst' f9' fO p9h F9w hO hT hR hAF x0 x1 x2 x3 x4 x5 x6 x7 y0 y1 y2 y3 y4 y5 y6 y7 yz0 yz1 yz2 yz3 yz4 yz5 yz6 yz7 l0 l1 l2 l3 l4 o0 o1 o2 o3 o4 oz0 oz1 oz2 oz3 oz4
    unfold st5o at P9 NM9 HO HT HR HAF9 F9W
    simp only[Nat.reduceAdd] at P9 NM9 HO HT HR HAF9 F9W
    go_upto_region 16 with(fail)
    generalize ((((w9.setCell ⟨C,3,none⟩ (.int .i64 k')).setCell ⟨C,4,none⟩ (.int .i64 v')).setCell ⟨C,5,none⟩ (.slice none 0 0)).setCell ⟨C,6,none⟩ (.slice none 0 0)).setCell ⟨C,7,none⟩ (.int .i64 0)=w10 at *
    obtain⟨⟨y0,y1,y2,y3,y4,y5,y6,y7⟩,_⟩:=cells8 P9.out
    have hp9':=lt_of_heap P9.out
    obtain⟨⟨o0,o1,o2,o3,o4⟩,oz0,oz1,oz2,oz3,oz4⟩:=cells5 HO.out
    have hsO9:=lt_of_heap HO.out
    have f11:=(Fr.refl [] w10).alloc (.cells (encF ⟨⟨lb,1,0,.mk k' v' [] [] 0⟩,none,0,none,0⟩).toArray 44)
    have g11:=heap_new w10 (.cells (encF ⟨⟨lb,1,0,.mk k' v' [] [] 0⟩,none,0,none,0⟩).toArray 44)
    have HAFX:=HAF9.out.keep f11 (fun x hx=>by cases hx)
    have HOW:=Lib.hid HAFX.own
    have HAX:=Lib.hid HAFX
    have HNS:=Lib.hid (World.news_of_block g11)
    have HOB:Hid (∀ b,b<T0+3→some b≠(Value.slice F9 dn.length f9).ownBlock):=Lib.hid (fun b hb e=>by have:=(HAF.out.lo b e.symm).1;omega)
    have HF11:=Lib.hid (F9W.out.trans (f11.mono (L':=[Mb]) (fun x hx=>by cases hx)))
    have G211:=Lib.hid (f11.keep HO.out (fun x=>by cases x))
    have GT11:=Lib.hid (f11.keep HT.out (fun x=>by cases x))
    have GR11:=Lib.hid (f11.keep HR.out (fun x=>by cases x))
    have NM11:=Lib.hid (NM9.out.fr f11)
    have HTYX:=Lib.hid (tyAt_nil (w10.alloc (.cells (encF ⟨⟨lb,1,0,.mk k' v' [] [] 0⟩,none,0,none,0⟩).toArray 44)) (fun b=>(okW (w10.alloc (.cells (encF ⟨⟨lb,1,0,.mk k' v' [] [] 0⟩,none,0,none,0⟩).toArray 44)) b∧T0+3≤b)∧(Value.slice F9 dn.length f9).ownBlock≠some b) P k' v' none none 0 0)
    have hz10:=World.size_alloc w10 (.cells (encF ⟨⟨lb,1,0,.mk k' v' [] [] 0⟩,none,0,none,0⟩).toArray 44)
    clear f11 g11 HAFX
    go_wp2_with (at_builtin;refine wpList_append_fp _ rfl _ _ 23 rfl 44 j0 _ 8 104 Tryz.underlying23 HJ.out HY0.out HY1.out HY2.out rfl (by decide) (.slice F9 dn.length f9) dn.length (dn.flatMap encF) rfl HOW.out ⟨w10.heap.size,0,none⟩ 1 1 (encF ⟨⟨lb,1,0,.mk k' v' [] [] 0⟩,none,0,none,0⟩) rfl rfl HNS.out (encF_one _) (by simp only[maxLen];omega) (by omega) ?_;intro v9' wA hown9 hgrow9 hfp9;obtain⟨F8,f8,rfl⟩:=own_sl hown9;have hU9:=(hgrow9.block (T0+1+1) (lt_of_heap G211.out) (HOB.out _ (by omega))).trans G211.out;obtain⟨⟨u0,u1,u2,u3,u4⟩,z0,z1,z2,z3,z4⟩:=cells5 hU9;have hsU9:=lt_of_heap hU9)
    have hsx:T0+3≤(w10.alloc (.cells (encF ⟨⟨lb,1,0,.mk k' v' [] [] 0⟩,none,0,none,0⟩).toArray 44)).heap.size:=by omega
    have hap:=HAX.out.app (x:=⟨⟨lb,1,0,.mk k' v' [] [] 0⟩,none,0,none,0⟩) HPL.out HTYX.out hsx hown9 hgrow9 hfp9
    have fT:Fr [T0+1+1] wA (wA.setCell ⟨T0+1+1,3,none⟩ (.slice F8 (dn.length+1) f8)):=(Fr.refl [T0+1+1] wA).setCell (p:=⟨T0+1+1,3,none⟩) (.inl (by simp)) _
    have hO9:=(hgrow9.block T0 (lt_of_heap GT11.out) (HOB.out _ (by omega))).trans GT11.out
    have hR9:=(hgrow9.block (T0+1) (lt_of_heap GR11.out) (HOB.out _ (by omega))).trans GR11.out
    have R0:=Lib.hid (fT.keep hO9 (by simp;omega))
    have R1:=Lib.hid (fT.keep hR9 (by simp))
    have R2:Hid ((wA.setCell ⟨T0+1+1,3,none⟩ (.slice F8 (dn.length+1) f8)).heap[T0+1+1]?=some (.cells #[.int .i64 10,.int .i64 0,.slice none 0 0,.slice F8 (dn.length+1) f8,.int .i64 0] 27 (0,0))):=Lib.hid (by simp[World.setCell,Array.getElem?_modify,hU9])
    have R3:=Lib.hid (hap.keep fT (fun x hx=>by simp at hx;omega))
    have RN:Hid (NmA (wA.setCell ⟨T0+1+1,3,none⟩ (.slice F8 (dn.length+1) f8)) Nb Mb es'):=Lib.hid (by
     obtain⟨b1,n,b2⟩:=NM11.out
     exact⟨fT.keep ((hgrow9.block Nb (lt_of_heap b1) (HOB.out _ (by omega))).trans b1) (by simp;omega),n,fT.keep ((hgrow9.block Mb (lt_of_heap b2) (HOB.out _ (by omega))).trans b2) (by simp;omega)⟩)
    have R4:=Lib.hid ((((HF2.out.trans (HF11.out.mono (L':=[Mb,T0+1+1]) (fun x hx => .inl (by simp at hx;simp[hx])))).grown hgrow9 (fun k e => .inr (by have h1:=(HAF.out.lo k e).1;have h2:=HSX.out;omega)))).trans (fT.mono (L':=[Mb,T0+1+1]) (fun x hx => .inl (by simp at hx;simp[hx]))))
    have R5:Hid ((dn++[(⟨⟨lb,1,0,.mk k' v' [] [] 0⟩,none,0,none,0⟩:FdM)]).map (·.fd)=(fsI 1).take (i+1)):=Lib.hid (by
     rw[List.take_add_one,HX.out,List.map_append,HDF.out];rfl)
    clear hap fT hO9 hR9 hown9 hgrow9 hfp9 hU9 u0 u1 u2 u3 u4 z0 z1 z2 z3 z4
    go_roundw
    case rel=>exact⟨i+1,dn++[⟨⟨lb,1,0,.mk k' v' [] [] 0⟩,none,0,none,0⟩],F8,f8,es',by first|rfl|simp|go_num,by omega,R0,R1,by rw[List.length_append,List.length_singleton];exact R2,R5,R3,HST',RN,R4⟩
    case measure=>simp[intOf];omega
   ·have hi2:i=2:=by omega
    subst hi2
    have hst:=HST.out
    rw[StI,if_neg (by omega)] at hst
    obtain⟨cc,rfl⟩:=hst
    have hdn2:dn.length=2:=by
     have h1:=congrArg List.length HDF.out
     rw[List.length_map] at h1
     simpa [fsI] using h1
    have HFD:=HAF.out.done
    rw[hdn2] at HFD
    have hfd2:dn.map (·.fd)=fsI 1:=HDF.out
    rw[hfd2] at HFD
    have HFD':=Lib.hid HFD
    rw[hdn2] at G2 o3
    have he:(rest==u)=false:=beq_eq_false_iff_ne.2 (Ne.symm HUR.out)
    have cO:=Lib.hid (pof_new HNM.out (v:=rest) (by simp[Instr.findNow,Instr.sameNow,he]) (by simp))
    have hr1:((#[(⟨.int .i64 u,.int .i64 1,cc⟩:MapEntry)].size:Nat):Int)+1=2:=rfl
    rw[hr1] at cO
    have g1:decide (0<rest)=true:=by simp;omega
    have hnl:=HNM.out.lt
    clear HST HNM hdn2 HFD hfd2 hlt2 HDF HAF HSX
    go_wp2_with fail
    refine cO.out.mono ?_
    rintro e w6 ⟨rfl,c6,hn6,f6⟩
    have j0':=f6.keep G0.out (by simp;omega)
    have j1':=f6.keep G1.out (by simp;omega)
    have j2':=f6.keep G2.out (by simp;omega)
    have hs6:=f6.size
    clear l0 l1 l2 l3 l4 o0 o1 o2 o3 o4 oz0 oz1 oz2 oz3 oz4 hsO hsT cO
    have fO:=(Fr.refl [T0+1+1] w6).setCell (p:=⟨T0+1+1,4,none⟩) (.inl (by simp)) (.int .i64 2)
    have hO9:(w6.setCell ⟨T0+1+1,4,none⟩ (.int .i64 2)).heap[T0+1+1]?=some (.cells #[.int .i64 10,.int .i64 0,.slice none 0 0,.slice F9 2 f9,.int .i64 2] 27 (0,0)):=by simp[World.setCell,Array.getElem?_modify,j2']
    have q9:=fO.keep j1' (by simp)
    obtain⟨⟨o0,o1,o2,o3,o4⟩,oz0,oz1,oz2,oz3,oz4⟩:=cells5 j2'
    obtain⟨⟨k0,k1,k2,k3,k4⟩,kz0,kz1,kz2,kz3,kz4⟩:=cells5 j1'
    obtain⟨⟨l0,l1,l2,l3,l4⟩,_⟩:=cells5 j0'
    have hs0:=lt_of_heap j0'
    have hs1:=lt_of_heap j1'
    have hs2:=lt_of_heap j2'
    have hfr:=st5_fr (w6.setCell ⟨T0+1+1,4,none⟩ (.int .i64 2)) (T0+1) (.int .i64 10) (.int .i64 0) (.slice none 0 0) (.slice F9 2 f9) (.int .i64 2)
    have hh:=(cells5 (st5_heap q9 (.int .i64 10) (.int .i64 0) (.slice none 0 0) (.slice F9 2 f9) (.int .i64 2))).1
    have f7:Fr [T0+1+1,T0+1] w6 _:=(fO.mono (L':=[T0+1+1,T0+1]) (fun x hx => .inl (by simp at hx;simp[hx]))).trans (hfr.mono (fun x hx => .inl (by simp at hx;simp[hx])))
    have f8:Fr [Mb,T0+1+1,T0+1] wr _:=(f6.mono (L':=[Mb,T0+1+1,T0+1]) (fun x hx => .inl (by simp at hx;simp[hx]))).trans (f7.mono (fun x hx => .inl (by simp at hx;rcases hx with e|e <;> simp[e])))
    have hff:Fr [Mb] W _:=((HF0.out.mono (L':=[Mb,T0+1+1,T0+1]) (fun x hx=>by cases hx)).trans ((HF2.out.mono (L':=[Mb,T0+1+1,T0+1]) (fun x hx => .inl (by simp at hx;rcases hx with e|e <;> simp[e]))).trans f8)).mono (L':=[Mb]) (fun x hx=>by
     simp at hx
     by_cases e:x=Mb
     ·exact .inl (by simp[e])
     ·exact .inr (by omega))
    have hfd:FsAt _ (fun b=>okW _ b∧T0≤b) P (.slice F9 2 f9) (fsI 1):=HFD'.out.keep (ok':=fun b=>okW _ b∧T0≤b) (fun b hb hlt=>by
     have hn:b ∉ [Mb,T0+1+1,T0+1]:=by have:=hb.2;simp;omega
     exact⟨⟨okW_fr f8 hb.1 hn hlt,by have:=hb.2;omega⟩,f8.block b hlt hn,Nat.lt_of_lt_of_le hlt f8.size⟩)
    unfold st5 at hh hff hfd
    have HRR:=Lib.hid hh
    have HFF:=Lib.hid hff
    have HFDs:=Lib.hid hfd
    clear hh hff hfd hfr fO f7 f8 q9 j0' j1' j2' f6 hn6 hO9
    go_wp2_with fail
    obtain⟨r0,r1,r2,r3,r4⟩:=HRR.out
    refine bodyPost_ret (v:=.agg #[.int .i64 10,.int .i64 0,.slice none 0 0,.slice F9 2 f9,.int .i64 2]) ?_ rfl ?_
    ·simp[results,Tryz.f41,go_sem,r0,r1,r2,r3,r4]
    ·exact⟨F9,f9,rfl,HFDs.out,HFF.out⟩
end
end
end Go.Proofs.YtoimdiballicnaaGreatDoor
