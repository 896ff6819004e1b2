/- A part of the proof: Jk, Jn, Jo4, Kk, Kj, Kl, Km, Kn, Jp. -/
import Derived.Deep.QuietTactic
import Derived.Deep.TreeCalls
import Derived.Deep.DeepCutAuto
import Derived.Test.YtoimdiballicnaaGreatDoorHb8
import Derived.Test.YtoimdiballicnaaGreatDoorHb9
namespace Go.Proofs.YtoimdiballicnaaGreatDoor
open Go.RowKit
set_option linter.all false
set_option maxHeartbeats 16000000
set_option maxRecDepth 100000
section
attribute [local go_sem ↓] Go.wp_at_zero Go.wp_at_succ
section
variable [LoB]
attribute [local instance] Ex.no
theorem pargs_q(W:World){k:Int}{n:Nat}(h:argN k=some n):Calls Tryz.prog 48 #[.int .i64 k] W fun e w'=>e = .returned (.int .i64 n)∧∃ m,w'=W.drewN m:=by
 have hk:k=1∨k=2∨k=3∨k=4∨k=5∨k=6∨k=10∨k=11∨k=8∨k=9∨k=7:=by
  unfold argN at h
  split at h
  ·omega
  ·split at h
   ·omega
   ·split at h
    ·omega
    ·cases h
 rcases hk with rfl|rfl|rfl|rfl|rfl|rfl|rfl|rfl|rfl|rfl|rfl
 all_goals
  have hn:=Option.some.inj h
  subst hn
  clear h
  go_enter Tryz.func48,Tryz.ntmps48
  go_wp2_with fail
  go_ret
  exact⟨by first|rfl|simp,0,rfl⟩
theorem pmay1{N:Nat}(ih:PMC N){w W:World}{P:List UInt8→Prop}{O:Nat→Prop}{G:Ctx}{x:TyT}{B D:Option Addr}{d e b2 Lb Mn Mr:Nat}{ln:List (Int×Int)}{lr:List (Int×(Int×List (List UInt8)))}(h2:W.heap[b2]?=some (.cells #[.pointer (some ⟨Lb,0,none⟩)] 61 (0,0)))(hW:Fr [] w W)
  (hx:rzT x<N) (wx:WfT G x) (lx:LimT x) (hP:Few P) (hO:∀ g,W.heap.size≤g→O g) (ht:TyAt w (okW w) P x [.int .i64 x.k,.int .i64 x.v,.slice B x.args.length d,.slice D x.fs.length e,.int .i64 x.rest]) (h:PLook W w.heap.size O G Lb Mn Mr ln lr):
  Calls Tryz.prog 51 (#[.agg #[.int .i64 x.k,.int .i64 x.v,.slice B x.args.length d,.slice D x.fs.length e,.int .i64 x.rest]] ++ #[.pointer (some ⟨b2,0,none⟩)]) W fun e w'=>e = .returned (.bool false)∧(∃ ln' lr',PLook w' w.heap.size O G Lb Mn Mr ln' lr')∧Fr [Lb,Mn,Mr] W w':=by
 show Calls Tryz.prog 51 #[.agg #[.int .i64 x.k,.int .i64 x.v,.slice B x.args.length d,.slice D x.fs.length e,.int .i64 x.rest],.pointer (some ⟨b2,0,none⟩)] W _
 have c2:=wic_cells h2
 have l2:=lt_of_heap h2
 have f0:=(Fr.refl [] W).alloc (.cells #[.int .i64 x.k,.int .i64 x.v,.slice B x.args.length d,.slice D x.fs.length e,.int .i64 x.rest] 27)
 have cS:=Lib.hid (ih w _ P O G x B D d e Lb Mn Mr ln lr hx (hW.trans f0) wx lx hP (fun g hg=>hO g (Nat.le_trans f0.size hg)) ht (h.fr0 f0))
 have F0:=Lib.hid (f0.mono (L':=[Lb,Mn,Mr]) (fun x hx=>by cases hx))
 clear ih h2 hW hx wx lx hP hO ht h f0
 go_enter Tryz.func51,Tryz.ntmps51
 go_wp2_with fail
 refine cS.out.mono ?_
 rintro e1 w1 ⟨rfl,hl1,f1⟩
 have HL1:=Lib.hid hl1
 have F1:=Lib.hid (F0.out.trans f1)
 clear hl1 f1
 go_wp2_with fail
 go_ret
 exact⟨by first|rfl|simp,HL1.out,F1.out⟩
theorem pmay_var{w W:World}{P:List UInt8→Prop}{O:Nat→Prop}{G:Ctx}{v:Int}{A B:Option Addr}{c d Lb Mn Mr:Nat}{ln:List (Int×Int)}{lr:List (Int×(Int×List (List UInt8)))}(hv:1≤v)(hg:G v = .ty)(h:PLook W w.heap.size O G Lb Mn Mr ln lr):
  Calls Tryz.prog 34 #[.pointer (some ⟨Lb,0,none⟩),.agg #[.int .i64 1,.int .i64 v,.slice A 0 c,.slice B 0 d,.int .i64 0]] W (PAns w W O G Lb Mn Mr):=by
 have f0:=((Fr.refl [] W).alloc (.cells #[.pointer (some ⟨Lb,0,none⟩)] 61)).alloc (.cells #[.int .i64 1,.int .i64 v,.slice A 0 c,.slice B 0 d,.int .i64 0] 27)
 have g0:=heap_old (heap_new W (.cells #[.pointer (some ⟨Lb,0,none⟩)] 61)) (.cells #[.int .i64 1,.int .i64 v,.slice A 0 c,.slice B 0 d,.int .i64 0] 27)
 have g1:=heap_new (W.alloc (.cells #[.pointer (some ⟨Lb,0,none⟩)] 61)) (.cells #[.int .i64 1,.int .i64 v,.slice A 0 c,.slice B 0 d,.int .i64 0] 27)
 rw[World.size_alloc] at g1
 have p0:=wic_cells g0
 have hp0:=lt_of_heap g0
 obtain⟨⟨l0,l1,l2,l3,l4⟩,_⟩:=cells5 g1
 have hgs:=lt_of_heap g1
 have cN:=fun X (hX:Fr [] _ X)=>Lib.hid (pname_any ((h.fr0 f0).fr0 hX) hv (what:=1) (by rw[hg];rfl) (by decide))
 have HF:=Lib.hid (f0.mono (L':=[Lb,Mn,Mr]) (fun x hx=>by cases hx))
 clear g0 g1 f0 h hg
 go_enter Tryz.func34,Tryz.ntmps34
 go_upto_region 2 with(fail)
 go_quiet ((go_at_call 48;exact Calls.quiet_of (pargs_q _ (n:=0) rfl)))
 go_wp2_with fail
 refine(cN _ ((Fr.refl [] _).drewN _)).out.mono ?_
 rintro e w6 ⟨rfl,hl6,f6⟩
 have HL6:=Lib.hid hl6
 have HF6:=Lib.hid ((HF.out.trans ((Fr.refl [Lb,Mn,Mr] _).drewN _)).trans f6)
 clear f6 hl6
 go_wp2_with fail
 go_ret
 obtain⟨ln',hl'⟩:=HL6.out
 exact⟨rfl,⟨_,_,hl'⟩,HF6.out⟩
theorem pmay_row{N:Nat}(ih:PMC N){w W:World}{P:List UInt8→Prop}{O:Nat→Prop}{G:Ctx}{k rest:Int}{fs:List Fd}{A B:Option Addr}{c d Lb Mn Mr:Nat}{ln:List (Int×Int)}{lr:List (Int×(Int×List (List UInt8)))}(hk:k=10∨k=11)(hN:rzFs fs≤N)(hW:Fr [] w W)(wf:WfFs G fs)(ro:RowOk G k (fun _=>False) fs rest)(hL:LimFs fs)(hP:Few P)(hO:∀ g,W.heap.size≤g→O g)
  (ht:FsAt w (okW w) P (.slice B fs.length d) fs) (h:PLook W w.heap.size O G Lb Mn Mr ln lr):
  Calls Tryz.prog 34 #[.pointer (some ⟨Lb,0,none⟩),.agg #[.int .i64 k,.int .i64 0,.slice A 0 c,.slice B fs.length d,.int .i64 rest]] W (PAns w W O G Lb Mn Mr):=by
 have hfl:fs.length≤1073741824:=by
  have:=hP (labs fs) (ri_nodup ro.1) (fun x hx=>by obtain⟨f,hf,rfl⟩:=labs_mem.1 hx;exact ht.lab f hf)
  simpa [labs] using this
 have f0:=((Fr.refl [] W).alloc (.cells #[.pointer (some ⟨Lb,0,none⟩)] 61)).alloc (.cells #[.int .i64 k,.int .i64 0,.slice A 0 c,.slice B fs.length d,.int .i64 rest] 27)
 have g0:=heap_old (heap_new W (.cells #[.pointer (some ⟨Lb,0,none⟩)] 61)) (.cells #[.int .i64 k,.int .i64 0,.slice A 0 c,.slice B fs.length d,.int .i64 rest] 27)
 have g1:=heap_new (W.alloc (.cells #[.pointer (some ⟨Lb,0,none⟩)] 61)) (.cells #[.int .i64 k,.int .i64 0,.slice A 0 c,.slice B fs.length d,.int .i64 rest] 27)
 rw[World.size_alloc] at g1
 have p0:=wic_cells g0
 have hp0:=lt_of_heap g0
 obtain⟨⟨l0,l1,l2,l3,l4⟩,_⟩:=cells5 g1
 have hgs:=lt_of_heap g1
 have hz:(W.alloc (.cells #[.pointer (some ⟨Lb,0,none⟩)] 61)).heap.size=W.heap.size+1:=World.size_alloc _ _
 have cR:=fun X (hX:Fr [] _ X)=>Lib.hid (prow_any ih hN (hW.trans (f0.trans hX)) wf ro hL hfl hP (fun g hg=>hO g (Nat.le_trans (f0.trans hX).size hg)) ht ((h.fr0 f0).fr0 hX))
 have cC:=fun X=>Lib.hid (sv_containsT (w:=X) (W:=X) (P:=P) (l:=[]) (ArAt.nil A c) (by simp) (fun _=>false) 51 #[.pointer (some ⟨W.heap.size,0,none⟩)] (enters_of Tryz.func51 (by kernel_rfl) rfl) (fun _ X'=>Fr [] X X') (fun i X' hX=>sh0 hX) (Fr.refl _ _) (fun i x B1 d1 D1 e1 X' hi=>by simp at hi))
 have HF:=Lib.hid f0
 have HG0:=Lib.hid g0
 have HG1:=Lib.hid g1
 clear g0 g1 f0 h ih hN hW wf ro hL hP hO ht
 rcases hk with rfl|rfl
 all_goals
  go_enter Tryz.func34,Tryz.ntmps34
  go_upto_region 2 with(fail)
  go_quiet ((go_at_call 48;exact Calls.quiet_of (pargs_q _ (n:=0) rfl)))
  go_wp2_with fail
  refine(cC _).out.mono ?_
  rintro e w6 ⟨rfl,⟨_,f6⟩,_⟩
  have hq:(([]:List TyT).any fun _=>false)=false:=rfl
  have fX:=((Fr.refl [] _).drewN nq).trans f6
  have cR6:=cR _ fX
  have j0:=fX.keep HG0.out (fun x=>by cases x)
  have j1:=fX.keep HG1.out (fun x=>by cases x)
  have HF6:=Lib.hid (HF.out.trans fX)
  clear cR cC f6 fX p0 hp0 l0 l1 l2 l3 l4 hgs
  have p0:=wic_cells j0
  have hp0:=lt_of_heap j0
  obtain⟨⟨l0,l1,l2,l3,l4⟩,_⟩:=cells5 j1
  have hgs:=lt_of_heap j1
  clear j0 j1
  go_wp2_with fail
  refine cR6.out.mono ?_
  rintro e w7 ⟨rfl,hl7,f7⟩
  have HL7:=Lib.hid hl7
  have HF7:=Lib.hid ((HF6.out.mono (L':=[Lb,Mn,Mr]) (fun x hx=>by cases hx)).trans f7)
  clear f7 hl7 cR6
  go_wp2_with fail
  go_ret
  exact⟨rfl,HL7.out,HF7.out⟩
theorem pmay_pln{N:Nat}(ih:PMC N){w W:World}{P:List UInt8→Prop}{O:Nat→Prop}{G:Ctx}{k:Int}{args:List TyT}{A B:Option Addr}{c d Lb Mn Mr:Nat}{ln:List (Int×Int)}{lr:List (Int×(Int×List (List UInt8)))}(h1:k≠1)(h10:k≠10)(h11:k≠11)(hn:argN k=some args.length)(hN:rzTs args<N)(hW:Fr [] w W)(wf:WfTs G args)(hL:LimTs args)(hP:Few P)(hO:∀ g,W.heap.size≤g→O g)
  (ht:ArAt w (okW w) P (.slice A args.length c) args) (h:PLook W w.heap.size O G Lb Mn Mr ln lr):
  Calls Tryz.prog 34 #[.pointer (some ⟨Lb,0,none⟩),.agg #[.int .i64 k,.int .i64 0,.slice A args.length c,.slice B 0 d,.int .i64 0]] W (PAns w W O G Lb Mn Mr):=by
 have hal:args.length≤1099511627776:=by have:=argN_le hn;omega
 have f0:=((Fr.refl [] W).alloc (.cells #[.pointer (some ⟨Lb,0,none⟩)] 61)).alloc (.cells #[.int .i64 k,.int .i64 0,.slice A args.length c,.slice B 0 d,.int .i64 0] 27)
 have g0:=heap_old (heap_new W (.cells #[.pointer (some ⟨Lb,0,none⟩)] 61)) (.cells #[.int .i64 k,.int .i64 0,.slice A args.length c,.slice B 0 d,.int .i64 0] 27)
 have g1:=heap_new (W.alloc (.cells #[.pointer (some ⟨Lb,0,none⟩)] 61)) (.cells #[.int .i64 k,.int .i64 0,.slice A args.length c,.slice B 0 d,.int .i64 0] 27)
 rw[World.size_alloc] at g1
 have p0:=wic_cells g0
 have hp0:=lt_of_heap g0
 obtain⟨⟨l0,l1,l2,l3,l4⟩,_⟩:=cells5 g1
 have hgs:=lt_of_heap g1
 have q1:(k==10)=false:=beq_eq_false_iff_ne.2 h10
 have q2:(k==11)=false:=beq_eq_false_iff_ne.2 h11
 have q3:(k==1)=false:=beq_eq_false_iff_ne.2 h1
 have q4:(k != 1)=true:=by simp[h1]
 have hlt:=h.lt
 have hlo:=h.lo
 have hww:=hW.size
 have heg:∀ args w,(callFunc 51 args).run Tryz.prog w = .ok (.enter 51 args) w:=enters_of Tryz.func51 (by kernel_rfl) rfl
 have hno:∀ x ∈ [Lb,Mn,Mr],¬ okW w x:=fun x hx ⟨cs,T,f,k1,_⟩=>by have:=lt_of_heap k1;simp at hx;omega
 have cC:=fun X (hX:Fr [] _ X)=>Lib.hid (sv_containsT (W:=X) ht hal (fun _=>false) 51 #[.pointer (some ⟨W.heap.size,0,none⟩)] heg (fun _ X'=>(∃ ln' lr',PLook X' w.heap.size O G Lb Mn Mr ln' lr')∧Fr [Lb,Mn,Mr] X X')
  (fun i X' hX'=>sh_ok (((hW.trans (f0.trans hX)).mono (fun x hx=>by cases hx)).trans hX'.2) hno) ⟨⟨_,_,(h.fr0 f0).fr0 hX⟩,Fr.refl _ _⟩ (fun i x B1 d1 D1 e1 X' hi hx hX'=>by
   obtain⟨⟨ln1,lr1,hl1⟩,hf1⟩:=hX'
   have hm:=List.mem_of_getElem? hi
   have hfX:=f0.trans hX
   refine(pmay1 ih (hf1.keep (hX.keep g0 (fun x=>by cases x)) (by simp;omega)) ((hW.trans hfX).step hf1 (fun x hx => .inr (by simp at hx;omega))) (Nat.lt_of_le_of_lt (rzTs_at hi) hN) ((wfTs_iff G _).1 wf x hm) (limTs_iff.1 hL x hm) hP (fun g hg=>hO g (by have h1:=hfX.size;have h2:=hf1.size;omega)) hx hl1).mono ?_
   rintro e' w' ⟨rfl,hl,hf⟩
   exact⟨rfl,hl,hf1.trans hf⟩))
 have HF:=Lib.hid f0
 have HG0:=Lib.hid g0
 have HG1:=Lib.hid g1
 have HN:=Lib.hid hn
 clear g0 g1 f0 h ih hN hW wf hL hP hO ht heg hno hn h1 h10 h11
 go_enter Tryz.func34,Tryz.ntmps34
 go_upto_region 2 with(fail)
 go_quiet ((go_at_call 48;exact Calls.quiet_of (pargs_q _ HN.out)))
 go_wp2_with fail
 refine(cC _ ((Fr.refl [] _).drewN nq)).out.mono ?_
 rintro e w6 ⟨rfl,_,hlast⟩
 have hany:(args.any fun _=>false)=false:=by simp
 obtain⟨hl6,f6⟩:=hlast hany
 rw[hany]
 have HL6:=Lib.hid hl6
 have HF6:=Lib.hid ((HF.out.mono (L':=[Lb,Mn,Mr]) (fun x hx=>by cases hx)).trans (((Fr.refl [Lb,Mn,Mr] _).drewN nq).trans f6))
 clear cC f6 hl6 hlast
 go_wp2_with fail
 go_ret
 exact⟨rfl,HL6.out,HF6.out⟩
theorem pmay_all:∀ N,PMC N
 | 0=>by intro _ _ _ _ _ _ _ _ _ _ _ _ _ _ _ h;exact absurd h (Nat.not_lt_zero _)
 | N+1=>by
  intro w W P O G t A B c d Lb Mn Mr ln lr hN hW wf hL hP hO ht h
  obtain⟨k,v,args,fs,rest⟩:=t
  rw[rzT] at hN
  rw[LimT] at hL
  rw[WfT] at wf
  simp only[TyT.k,TyT.v,TyT.args,TyT.fs,TyT.rest] at ht ⊢
  obtain⟨hn,hv1,hv0,was,wfs,hrow⟩:=wf
  obtain⟨v2,v3,he,har,hfs⟩:=TyAt.iff.1 ht
  cases he
  by_cases h1:k=1
  ·subst h1
   rw[if_neg (by decide)] at hrow
   obtain⟨rfl,rfl⟩:=hrow
   obtain rfl:args=[]:=List.length_eq_zero_iff.1 (argN_var hn)
   exact pmay_var (P:=P) (hv1 rfl).1 (hv1 rfl).2 h
  ·have hv:=hv0 h1
   subst hv
   by_cases hr:rwd k=true
   ·rw[if_pos hr] at hrow
    obtain rfl:args=[]:=List.length_eq_zero_iff.1 (argN_row hr hn)
    exact pmay_row (pmay_all N) (by unfold rwd at hr;simp at hr;exact hr) (by omega) hW wfs hrow hL.2.2.2 hP hO hfs h
   ·rw[if_neg hr] at hrow
    obtain⟨rfl,rfl⟩:=hrow
    have h2:k≠10∧k≠11:=by unfold rwd at hr;simp at hr;exact hr
    exact pmay_pln (pmay_all N) h1 h2.1 h2.2 hn (by omega) hW was hL.2.2.1 hP hO har h
end
section
variable [LoB]
attribute [local instance] Ex.no
def MayG(t:TyT):Prop:=∃ G:Ctx,Pos G∧Rise G∧WfT G t∧∀ Pr:Int→Prop,VT Pr t→∀ u,G u≠.no→Pr u
theorem mayT_g{l':List (Int×Fct)}{t:TyT}(h:MayT [] l' t):MayG t :=
 ⟨ctxL l',h.1.ok.pos,h.1.ok.rise,h.2,fun Pr hP=>h.1.sup Pr hP (fun u hu=>absurd rfl hu)⟩
theorem mpAt_made{α:Type}{V:α→Value→Prop}{w:World}{m n:Nat}(h:w.heap[m]?=some (.map #[] n)):MpAt w V (some m) []:=.inr ⟨m,#[],n,rfl,h,MpE.nil V⟩
theorem rMay_any{w:World}{ok:Nat→Prop}{P:List UInt8→Prop}{t:TyT}{A B:Option Addr}{c d:Nat}(hs:szT t≤1073741824)(ht:TyAt w ok P t [.int .i64 t.k,.int .i64 t.v,.slice A t.args.length c,.slice B t.fs.length d,.int .i64 t.rest]):
  Calls Tryz.prog 29 #[.agg #[.int .i64 t.k,.int .i64 t.v,.slice A t.args.length c,.slice B t.fs.length d,.int .i64 t.rest]] w fun e w'=>∃ b:Bool,e = .returned (.bool b)∧(b=true→MayG t)∧Fr [] w w':=by
 have f0:=(((Fr.refl [] w).alloc (.cells #[.int .i64 t.k,.int .i64 t.v,.slice A t.args.length c,.slice B t.fs.length d,.int .i64 t.rest] 27)).alloc (.map #[] 0)).alloc (.cells #[.map (some (w.heap.size+1)),.bool false] 76)
 have g0:=heap_old (heap_old (heap_new w (.cells #[.int .i64 t.k,.int .i64 t.v,.slice A t.args.length c,.slice B t.fs.length d,.int .i64 t.rest] 27)) (.map #[] 0)) (.cells #[.map (some (w.heap.size+1)),.bool false] 76)
 have g1:=heap_old (heap_new (w.alloc (.cells #[.int .i64 t.k,.int .i64 t.v,.slice A t.args.length c,.slice B t.fs.length d,.int .i64 t.rest] 27)) (.map #[] 0)) (.cells #[.map (some (w.heap.size+1)),.bool false] 76)
 have g2:=heap_new ((w.alloc (.cells #[.int .i64 t.k,.int .i64 t.v,.slice A t.args.length c,.slice B t.fs.length d,.int .i64 t.rest] 27)).alloc (.map #[] 0)) (.cells #[.map (some (w.heap.size+1)),.bool false] 76)
 rw[World.size_alloc] at g1
 rw[World.size_alloc,World.size_alloc] at g2
 obtain⟨⟨l0,l1,l2,l3,l4⟩,_⟩:=cells5 g0
 have hgs:=lt_of_heap g0
 have htb:TyAt w (· < w.heap.size) P t [.int .i64 t.k,.int .i64 t.v,.slice A t.args.length c,.slice B t.fs.length d,.int .i64 t.rest]:=ht.keep (fun b _ hlt=>⟨hlt,rfl,hlt⟩)
 have hL:LookAt (((w.alloc (.cells #[.int .i64 t.k,.int .i64 t.v,.slice A t.args.length c,.slice B t.fs.length d,.int .i64 t.rest] 27)).alloc (.map #[] 0)).alloc (.cells #[.map (some (w.heap.size+1)),.bool false] 76)) w.heap.size P (w.heap.size+1+1) (w.heap.size+1) [] false:=⟨g2,mpAt_made g1,by omega,by omega⟩
 have cM:=Lib.hid (rmay_all _ w (((w.alloc (.cells #[.int .i64 t.k,.int .i64 t.v,.slice A t.args.length c,.slice B t.fs.length d,.int .i64 t.rest] 27)).alloc (.map #[] 0)).alloc (.cells #[.map (some (w.heap.size+1)),.bool false] 76)) w.heap.size P t A B c d _ _ [] false (Nat.lt_succ_self _) (f0.below (Nat.le_refl _) (fun x hx=>by cases hx)) (Nat.le_refl _) hs htb hL)
 have HF0:=Lib.hid f0
 clear f0 g0 g1 g2 ht htb hL hs
 have k1:=run_make 74 (w.alloc (.cells #[.int .i64 t.k,.int .i64 t.v,.slice A t.args.length c,.slice B t.fs.length d,.int .i64 t.rest] 27))
 rw[World.size_alloc] at k1
 go_enter Tryz.func29,Tryz.ntmps29
 go_wp2_with fail
 refine cM.out.mono ?_
 rintro e w6 ⟨rfl,⟨l',b',hl,_,hm,f6⟩⟩
 obtain⟨c0,c1,z1⟩:=hl.cells
 have hLt:=hl.lt
 have HM:=Lib.hid (show(!b')=true→MayG t from fun h=>mayT_g (hm (by simpa using h) (fun v x hx=>by cases hx)))
 have HF6:=Lib.hid (HF0.out.step f6 (fun x hx => .inr (by simp at hx;omega)))
 clear hl hm f6 cM
 go_wp2_with fail
 go_ret
 exact⟨!b',by first|rfl|simp,HM.out,HF6.out⟩
theorem pMay_any{w:World}{P:List UInt8→Prop}{G:Ctx}{t:TyT}{A B:Option Addr}{c d:Nat}(wf:WfT G t)(hL:LimT t)(hP:Few P)(ht:TyAt w (okW w) P t [.int .i64 t.k,.int .i64 t.v,.slice A t.args.length c,.slice B t.fs.length d,.int .i64 t.rest]):
  Calls Tryz.prog 15 #[.agg #[.int .i64 t.k,.int .i64 t.v,.slice A t.args.length c,.slice B t.fs.length d,.int .i64 t.rest]] w fun e w'=>e = .returned (.bool true)∧Fr [] w w':=by
 have f0:=((((Fr.refl [] w).alloc (.cells #[.int .i64 t.k,.int .i64 t.v,.slice A t.args.length c,.slice B t.fs.length d,.int .i64 t.rest] 27)).alloc (.map #[] 0)).alloc (.map #[] 0)).alloc (.cells #[.map (some (w.heap.size+1)),.map (some (w.heap.size+1+1))] 65)
 have g0:=heap_old (heap_old (heap_old (heap_new w (.cells #[.int .i64 t.k,.int .i64 t.v,.slice A t.args.length c,.slice B t.fs.length d,.int .i64 t.rest] 27)) (.map #[] 0)) (.map #[] 0)) (.cells #[.map (some (w.heap.size+1)),.map (some (w.heap.size+1+1))] 65)
 have g1:=heap_old (heap_old (heap_new (w.alloc (.cells #[.int .i64 t.k,.int .i64 t.v,.slice A t.args.length c,.slice B t.fs.length d,.int .i64 t.rest] 27)) (.map #[] 0)) (.map #[] 0)) (.cells #[.map (some (w.heap.size+1)),.map (some (w.heap.size+1+1))] 65)
 have g2:=heap_old (heap_new ((w.alloc (.cells #[.int .i64 t.k,.int .i64 t.v,.slice A t.args.length c,.slice B t.fs.length d,.int .i64 t.rest] 27)).alloc (.map #[] 0)) (.map #[] 0)) (.cells #[.map (some (w.heap.size+1)),.map (some (w.heap.size+1+1))] 65)
 have g3:=heap_new (((w.alloc (.cells #[.int .i64 t.k,.int .i64 t.v,.slice A t.args.length c,.slice B t.fs.length d,.int .i64 t.rest] 27)).alloc (.map #[] 0)).alloc (.map #[] 0)) (.cells #[.map (some (w.heap.size+1)),.map (some (w.heap.size+1+1))] 65)
 rw[World.size_alloc] at g1
 rw[World.size_alloc,World.size_alloc] at g2
 rw[World.size_alloc,World.size_alloc,World.size_alloc] at g3
 obtain⟨⟨l0,l1,l2,l3,l4⟩,_⟩:=cells5 g0
 have hgs:=lt_of_heap g0
 have hL0:PLook ((((w.alloc (.cells #[.int .i64 t.k,.int .i64 t.v,.slice A t.args.length c,.slice B t.fs.length d,.int .i64 t.rest] 27)).alloc (.map #[] 0)).alloc (.map #[] 0)).alloc (.cells #[.map (some (w.heap.size+1)),.map (some (w.heap.size+1+1))] 65)) w.heap.size (fun _=>True) G (w.heap.size+1+1+1) (w.heap.size+1) (w.heap.size+1+1) [] []:=⟨g3,mpAt_made g1,mpAt_made g2,by omega,by omega,fun v n h=>(by cases h),fun r q h=>(by cases h)⟩
 have cM:=Lib.hid (pmay_all _ w ((((w.alloc (.cells #[.int .i64 t.k,.int .i64 t.v,.slice A t.args.length c,.slice B t.fs.length d,.int .i64 t.rest] 27)).alloc (.map #[] 0)).alloc (.map #[] 0)).alloc (.cells #[.map (some (w.heap.size+1)),.map (some (w.heap.size+1+1))] 65)) P (fun _=>True) G t A B c d _ _ _ [] [] (Nat.lt_succ_self _) f0 wf hL hP (fun _ _=>trivial) ht hL0)
 have HF0:=Lib.hid f0
 clear f0 g0 g1 g2 g3 ht hL0 hL wf
 have k1:=run_make 62 (w.alloc (.cells #[.int .i64 t.k,.int .i64 t.v,.slice A t.args.length c,.slice B t.fs.length d,.int .i64 t.rest] 27))
 have k2:=run_make 63 ((w.alloc (.cells #[.int .i64 t.k,.int .i64 t.v,.slice A t.args.length c,.slice B t.fs.length d,.int .i64 t.rest] 27)).alloc (.map #[] 0))
 rw[World.size_alloc] at k1
 rw[World.size_alloc,World.size_alloc] at k2
 go_enter Tryz.func15,Tryz.ntmps15
 go_wp2_with fail
 refine cM.out.mono ?_
 rintro e w6 ⟨rfl,_,f6⟩
 have HF6:=Lib.hid (HF0.out.step f6 (fun x hx => .inr (by simp at hx;omega)))
 clear f6 cM
 go_wp2_with fail
 go_ret
 exact⟨rfl,HF6.out⟩
end
section
variable [LoB]
attribute [local instance] Ex.no
theorem pCanon_row{w:World}{ok:Nat→Prop}{P:List UInt8→Prop}{u rest:Int}{A B:Option Addr}{c d:Nat}(hur:u≠rest)(hr:0<rest)(hfs:FsAt w ok P (.slice B 2 d) (fsI u)):
  Calls Tryz.prog 26 #[.agg #[.int .i64 10,.int .i64 0,.slice A 0 c,.slice B 2 d,.int .i64 rest]] w fun e w'=>∃ (F9:Option Addr) (f9:Nat),e = .returned (.agg #[.int .i64 10,.int .i64 0,.slice none 0 0,.slice F9 2 f9,.int .i64 2])∧FsAt w' (fun b=>okW w' b∧w.heap.size≤b) P (.slice F9 2 f9) (fsI 1)∧Fr [] w w':=by
 have f0:=((((Fr.refl [] w).alloc (.cells #[.int .i64 10,.int .i64 0,.slice A 0 c,.slice B 2 d,.int .i64 rest] 27)).alloc (.cells #[.int .i64 0,.int .i64 0,.slice none 0 0,.slice none 0 0,.int .i64 0] 27)).alloc (.map #[] 0)).alloc (.cells #[.map (some (w.heap.size+1+1))] 72)
 have g0:=heap_old (heap_old (heap_old (heap_new w (.cells #[.int .i64 10,.int .i64 0,.slice A 0 c,.slice B 2 d,.int .i64 rest] 27)) (.cells #[.int .i64 0,.int .i64 0,.slice none 0 0,.slice none 0 0,.int .i64 0] 27)) (.map #[] 0)) (.cells #[.map (some (w.heap.size+1+1))] 72)
 have g1:=heap_old (heap_old (heap_new (w.alloc (.cells #[.int .i64 10,.int .i64 0,.slice A 0 c,.slice B 2 d,.int .i64 rest] 27)) (.cells #[.int .i64 0,.int .i64 0,.slice none 0 0,.slice none 0 0,.int .i64 0] 27)) (.map #[] 0)) (.cells #[.map (some (w.heap.size+1+1))] 72)
 have g2:=heap_old (heap_new ((w.alloc (.cells #[.int .i64 10,.int .i64 0,.slice A 0 c,.slice B 2 d,.int .i64 rest] 27)).alloc (.cells #[.int .i64 0,.int .i64 0,.slice none 0 0,.slice none 0 0,.int .i64 0] 27)) (.map #[] 0)) (.cells #[.map (some (w.heap.size+1+1))] 72)
 have g3:=heap_new (((w.alloc (.cells #[.int .i64 10,.int .i64 0,.slice A 0 c,.slice B 2 d,.int .i64 rest] 27)).alloc (.cells #[.int .i64 0,.int .i64 0,.slice none 0 0,.slice none 0 0,.int .i64 0] 27)).alloc (.map #[] 0)) (.cells #[.map (some (w.heap.size+1+1))] 72)
 rw[World.size_alloc] at g1
 rw[World.size_alloc,World.size_alloc] at g2
 rw[World.size_alloc,World.size_alloc,World.size_alloc] at g3
 have k1:=run_make 62 ((w.alloc (.cells #[.int .i64 10,.int .i64 0,.slice A 0 c,.slice B 2 d,.int .i64 rest] 27)).alloc (.cells #[.int .i64 0,.int .i64 0,.slice none 0 0,.slice none 0 0,.int .i64 0] 27))
 rw[World.size_alloc,World.size_alloc] at k1
 obtain⟨⟨l0,l1,l2,l3,l4⟩,_⟩:=cells5 g0
 have hgs:=lt_of_heap g0
 have hn:NmA ((((w.alloc (.cells #[.int .i64 10,.int .i64 0,.slice A 0 c,.slice B 2 d,.int .i64 rest] 27)).alloc (.cells #[.int .i64 0,.int .i64 0,.slice none 0 0,.slice none 0 0,.int .i64 0] 27)).alloc (.map #[] 0)).alloc (.cells #[.map (some (w.heap.size+1+1))] 72)) (w.heap.size+1+1+1) (w.heap.size+1+1) #[]:=⟨g3,_,g2⟩
 have hz:((((w.alloc (.cells #[.int .i64 10,.int .i64 0,.slice A 0 c,.slice B 2 d,.int .i64 rest] 27)).alloc (.cells #[.int .i64 0,.int .i64 0,.slice none 0 0,.slice none 0 0,.int .i64 0] 27)).alloc (.map #[] 0)).alloc (.cells #[.map (some (w.heap.size+1+1))] 72)).heap.size=w.heap.size+1+1+1+1:=by rw[World.size_alloc,World.size_alloc,World.size_alloc,World.size_alloc]
 have cM:=Lib.hid (pcanon_row (A:=A) (c:=c) hur hr f0 hfs (by omega) hn)
 have HF0:=Lib.hid f0
 have HG1:=Lib.hid g1
 clear f0 g0 g1 g2 g3 hfs hn
 go_enter Tryz.func26,Tryz.ntmps26
 go_wp2_with fail
 refine cM.out.mono ?_
 rintro e w6 ⟨F9,f9,rfl,hfd,f6⟩
 have j1:=f6.keep HG1.out (by simp)
 have hs6:=f6.size
 have hfr:=st5_fr w6 (w.heap.size+1) (.int .i64 10) (.int .i64 0) (.slice none 0 0) (.slice F9 2 f9) (.int .i64 2)
 have hh:=(cells5 (st5_heap j1 (.int .i64 10) (.int .i64 0) (.slice none 0 0) (.slice F9 2 f9) (.int .i64 2))).1
 have hff:Fr [] w _:=(HF0.out.step f6 (fun x hx => .inr (by simp at hx;omega))).step hfr (fun x hx => .inr (by simp at hx;omega))
 have hfd2:FsAt _ (fun b=>okW _ b∧w.heap.size≤b) P (.slice F9 2 f9) (fsI 1):=hfd.keep (ok':=fun b=>okW (st5 w6 (w.heap.size+1) (.int .i64 10) (.int .i64 0) (.slice none 0 0) (.slice F9 2 f9) (.int .i64 2)) b∧w.heap.size≤b) (fun b hb hlt=>by
  have hnn:b ∉ [w.heap.size+1]:=by have:=hb.2;simp;omega
  exact⟨⟨okW_fr hfr hb.1 hnn hlt,by have:=hb.2;omega⟩,hfr.block b hlt hnn,Nat.lt_of_lt_of_le hlt hfr.size⟩)
 unfold st5 at hh hff hfd2
 have HRR:=Lib.hid hh
 have HFF:=Lib.hid hff
 have HFD:=Lib.hid hfd2
 clear l0 l1 l2 l3 l4 hgs
 obtain⟨⟨k0,k1,k2,k3,k4⟩,kz0,kz1,kz2,kz3,kz4⟩:=cells5 j1
 have hs1:=lt_of_heap j1
 clear hh hff hfd hfd2 hfr f6 j1 cM
 go_wp2_with fail
 obtain⟨r0,r1,r2,r3,r4⟩:=HRR.out
 refine bodyPost_ret (v:=.agg #[.int .i64 10,.int .i64 0,.slice none 0 0,.slice F9 2 f9,.int .i64 2]) ?_ rfl ?_
 ·simp[results,Tryz.f26,go_sem,r0,r1,r2,r3,r4]
 ·exact⟨F9,f9,rfl,HFD.out,HFF.out⟩
theorem ptext_dig(W:World)(v:Nat)(hv:v<10){q:UInt8}(hq:UInt8.ofNat (48+v)=q)(rest:Int)(A B:Option Addr)(n m c d:Nat):Calls Tryz.prog 24 #[.agg #[.int .i64 1,.int .i64 v,.slice A n c,.slice B m d,.int .i64 rest]] W fun e w'=>e = .returned (.string ⟨#[39,q]⟩)∧Fr [] W w':=by
 have:=ptext_var W v (by omega) rest A B n m c d
 rw[Lib.decDigits_one hv,hq] at this
 exact this
def itS(q:UInt8):List (List UInt8):=[[97,58,32,105,110,116],[98,58,32,39,q]]
theorem pfields_any{w:World}{ok:Nat→Prop}{P:List UInt8→Prop}{u r:Nat}{q q2:UInt8}{B:Option Addr}{d:Nat}(hu:u<10)(hr:r<10)(hq:UInt8.ofNat (48+u)=q)(hq2:UInt8.ofNat (48+r)=q2)(hr0:0<r)(hfs:FsAt w ok P (.slice B 2 d) (fsI u)):
  Calls Tryz.prog 39 #[.agg #[.slice B 2 d,.int .i64 (r:Int)]] w fun e w'=>e = .returned (.string ⟨#[97,58,32,105,110,116,44,32,98,58,32,39,q,124,32,q2]⟩)∧Fr [] w w':=by
 have f0:=(Fr.refl [] w).alloc (.cells #[.slice B 2 d,.int .i64 (r:Int)] 25)
 have g0:=heap_new w (.cells #[.slice B 2 d,.int .i64 (r:Int)] 25)
 obtain⟨⟨l0,l1⟩,_⟩:=cells2 g0
 have hgs:=lt_of_heap g0
 obtain⟨i1,hi,hz0,hz1,hz2⟩:=info_parts infoSt
 have HI:=Lib.hid hi
 have HZ0:=Lib.hid hz0
 have HZ1:=Lib.hid hz1
 have HZ2:=Lib.hid hz2
 have HF0:=Lib.hid f0
 have HG0:=Lib.hid g0
 have HFS:=Lib.hid hfs
 have HA0:=Lib.hid (AppS.nil (w.heap.size+1) (w.alloc (.cells #[.slice B 2 d,.int .i64 (r:Int)] 25)))
 clear hi hz0 hz1 hz2 f0 g0 hfs
 go_enter Tryz.func39,Tryz.ntmps39
 go_wp2_with fail
 generalize w.alloc (.cells #[.slice B 2 d,.int .i64 (r:Int)] 25)=x at *
 generalize hT:w.heap.size=T at *
 go_loopw [3,10] (fun lv iv wr=>∃ (i:Nat) (Y:Option Addr) (cy:Nat),lv = .slice Y i cy∧iv = .int .i64 i∧i≤2∧Hid (AppS (T+1) wr Y cy ((itS q).take i))∧Hid (Fr [] w wr)∧Hid (wr.heap[T]?=some (.cells #[.slice B 2 d,.int .i64 (r:Int)] 25 (0,0)))) (fun lv iv wr=>2-(intOf iv).toNat)
 case atStart=>exact⟨0,none,0,rfl,rfl,by omega,HA0,HF0,HG0⟩
 case round =>
  obtain⟨i,Y,cy,rfl,rfl,hi,HAS,HF,HG⟩:=hrel
  clear HA0 HF0 HG0 l0 l1 hgs
  obtain⟨⟨l0,l1⟩,_⟩:=cells2 HG.out
  have hgs:=lt_of_heap HG.out
  have hsT:=HF.out.size
  have h3:i=0∨i=1∨i=2:=by omega
  rcases h3 with rfl|rfl|rfl
  ·have q2:(0:Int)<2:=by decide
   obtain⟨gb,og,rfl,hok,hgb,Bf,df,Df,ef,hty,x0,x1,x2,x3,x4,x5,x6,x7⟩:=HFS.out.at (show(fsI u)[0]?=some ⟨[97],1,0,.mk 2 0 [] [] 0⟩from rfl)
   simp only[TyT.k,TyT.v,TyT.args,TyT.fs,TyT.rest,List.length_nil] at x3 x4 x5 x6 x7
   replace x0:=(HF.out.cell (p:=⟨gb,og+0 * 8,none⟩) hgb (fun x=>by cases x)).trans x0
   replace x1:=(HF.out.cell (p:=⟨gb,og+0 * 8+1,none⟩) hgb (fun x=>by cases x)).trans x1
   replace x2:=(HF.out.cell (p:=⟨gb,og+0 * 8+2,none⟩) hgb (fun x=>by cases x)).trans x2
   replace x3:=(HF.out.cell (p:=⟨gb,og+0 * 8+3,none⟩) hgb (fun x=>by cases x)).trans x3
   replace x4:=(HF.out.cell (p:=⟨gb,og+0 * 8+4,none⟩) hgb (fun x=>by cases x)).trans x4
   replace x5:=(HF.out.cell (p:=⟨gb,og+0 * 8+5,none⟩) hgb (fun x=>by cases x)).trans x5
   replace x6:=(HF.out.cell (p:=⟨gb,og+0 * 8+6,none⟩) hgb (fun x=>by cases x)).trans x6
   replace x7:=(HF.out.cell (p:=⟨gb,og+0 * 8+7,none⟩) hgb (fun x=>by cases x)).trans x7
   simp only[Nat.zero_mul,Nat.one_mul,Nat.add_zero] at x0 x1 x2 x3 x4 x5 x6 x7
   have hgw:gb<wr.heap.size:=Nat.lt_of_lt_of_le hgb HF.out.size
   have f7:=(Fr.refl [] wr).alloc (.cells #[.string ⟨#[97]⟩,.int .i64 1,.int .i64 0,.int .i64 2,.int .i64 0,.slice Bf 0 df,.slice Df 0 ef,.int .i64 0] 44)
   have p7:=heap_new wr (.cells #[.string ⟨#[97]⟩,.int .i64 1,.int .i64 0,.int .i64 2,.int .i64 0,.slice Bf 0 df,.slice Df 0 ef,.int .i64 0] 44)
   have hz7:=World.size_alloc wr (.cells #[.string ⟨#[97]⟩,.int .i64 1,.int .i64 0,.int .i64 2,.int .i64 0,.slice Bf 0 df,.slice Df 0 ef,.int .i64 0] 44)
   obtain⟨⟨y0,y1,y2,y3,y4,y5,y6,y7⟩,_⟩:=cells8 p7
   have hp7:=lt_of_heap p7
   have F7:=Lib.hid f7
   have k0:=kcJ f7 l0 hgs
   clear hok hty f7 p7
   go_upto_region 10 with(fail)
   clear x0 x1 x2 x3 x4 x5 x6 x7 l0 l1 k0
   generalize wr.alloc (.cells #[.string ⟨#[97]⟩,.int .i64 1,.int .i64 0,.int .i64 2,.int .i64 0,.slice Bf 0 df,.slice Df 0 ef,.int .i64 0] 44)=w7 at *
   generalize hC:wr.heap.size=C at *
   have HOB:Hid (some C≠(Value.slice Y 0 cy).ownBlock):=Lib.hid (fun e=>by have:=HAS.out.lo C e.symm;omega)
   have HAS7:=Lib.hid (HAS.out.keep F7.out (fun x hx=>by cases hx))
   go_region_held3 (fun w'=>w'.cell? ⟨C,0,none⟩=some (.string ⟨#[97]⟩)∧w'.cell? ⟨C,3,none⟩=some (.int .i64 2)∧w'.cell? ⟨C,4,none⟩=some (.int .i64 0)∧w'.cell? ⟨C,5,none⟩=some (.slice Bf 0 df)∧w'.cell? ⟨C,6,none⟩=some (.slice Df 0 ef)∧w'.cell? ⟨C,7,none⟩=some (.int .i64 0)) (first|go_keep|exact M9|exact M7)
    ((first|((with_reducible refine(ptext_int _ 0 0 Bf Df 0 0 df ef).mono ?_);rintro e x6 ⟨rfl,f6⟩;have F6:=(Fr.refl [] w7).drew.trans f6;have M7:=And.intro (kcJ F6 y0 hp7) (And.intro (kcJ F6 y3 hp7) (And.intro (kcJ F6 y4 hp7) (And.intro (kcJ F6 y5 hp7) (And.intro (kcJ F6 y6 hp7) (kcJ F6 y7 hp7)))));have hp6:=Nat.lt_of_lt_of_le hp7 F6.size;have HAP6:=Lib.hid (HAS7.out.keep F6 (fun x hx=>by cases hx)))| (refine step_append_fp (by rfl) _ _ 84 (by rfl) 9 i1 _ 1 16 Tryz.underlying84 HI.out HZ0.out HZ1.out HZ2.out rfl (by decide) (.slice Y 0 cy) 0 (((itS q).take 0).map encStr) (by rfl) (ownsRow_fr HAP6.out.own ((Fr.refl [] x6).alloc (.cells #[.string ⟨#[97,58,32,105,110,116]⟩] 9)) (fun _ _ x=>by cases x)) ⟨x6.heap.size,0,none⟩ 1 1 [encStr [97,58,32,105,110,116]] (by rfl) rfl (World.news_of_block (heap_new x6 _)) (by simp[Value.oneCell']) (by simp only[maxLen];omega) (by omega) ?_;intro v9' w9 hown9 hgrow9 hfp9;obtain⟨Y9,cp9,hv9⟩:=own_any hown9;subst hv9;have A6:=(Fr.refl [] x6).alloc (.cells #[.string ⟨#[97,58,32,105,110,116]⟩] 9);have M9:=And.intro (kcG hgrow9 (kcJ A6 M7.1 hp6) (by rw[World.size_alloc];exact Nat.lt_succ_of_lt hp6) (HOB.out)) (And.intro (kcG hgrow9 (kcJ A6 M7.2.1 hp6) (by rw[World.size_alloc];exact Nat.lt_succ_of_lt hp6) (HOB.out)) (And.intro (kcG hgrow9 (kcJ A6 M7.2.2.1 hp6) (by rw[World.size_alloc];exact Nat.lt_succ_of_lt hp6) (HOB.out)) (And.intro (kcG hgrow9 (kcJ A6 M7.2.2.2.1 hp6) (by rw[World.size_alloc];exact Nat.lt_succ_of_lt hp6) (HOB.out)) (And.intro (kcG hgrow9 (kcJ A6 M7.2.2.2.2.1 hp6) (by rw[World.size_alloc];exact Nat.lt_succ_of_lt hp6) (HOB.out)) (kcG hgrow9 (kcJ A6 M7.2.2.2.2.2 hp6) (by rw[World.size_alloc];exact Nat.lt_succ_of_lt hp6) (HOB.out)))))))))
   all_goals
    have hap:=Lib.hid ((HAP6.out.keep A6 (fun x hx=>by cases hx)).app (by have h1:=F7.out.size;have h2:=F6.size;have h3:=A6.size;omega) hown9 hfp9)
    have hff:=Lib.hid ((HF.out.trans (F7.out.trans (F6.trans A6))).grown hgrow9 (fun k e => .inr (by have:=(HAS.out.lo k e).1;omega)))
    have hgg:=Lib.hid ((hgrow9.block T (lt_of_heap (A6.keep (F6.keep (F7.out.keep HG.out (fun x=>by cases x)) (fun x=>by cases x)) (fun x=>by cases x))) (fun e=>by have:=(HAS.out.lo T e.symm).1;omega)).trans (A6.keep (F6.keep (F7.out.keep HG.out (fun x=>by cases x)) (fun x=>by cases x)) (fun x=>by cases x)))
    clear hown9 hgrow9 hfp9 M9 M7 A6 F6 f6
    go_wp2_with fail
    go_roundw
    case rel=>exact⟨0+1,Y9,cp9,by first|rfl|simp,by first|rfl|simp|go_num,by omega,hap,hff,hgg⟩
    case measure=>simp[intOf]
  ·have q2:(1:Int)<2:=by decide
   obtain⟨gb,og,rfl,hok,hgb,Bf,df,Df,ef,hty,x0,x1,x2,x3,x4,x5,x6,x7⟩:=HFS.out.at (show(fsI u)[1]?=some ⟨[98],1,0,.mk 1 u [] [] 0⟩from rfl)
   simp only[TyT.k,TyT.v,TyT.args,TyT.fs,TyT.rest,List.length_nil] at x3 x4 x5 x6 x7
   replace x0:=(HF.out.cell (p:=⟨gb,og+1 * 8,none⟩) hgb (fun x=>by cases x)).trans x0
   replace x1:=(HF.out.cell (p:=⟨gb,og+1 * 8+1,none⟩) hgb (fun x=>by cases x)).trans x1
   replace x2:=(HF.out.cell (p:=⟨gb,og+1 * 8+2,none⟩) hgb (fun x=>by cases x)).trans x2
   replace x3:=(HF.out.cell (p:=⟨gb,og+1 * 8+3,none⟩) hgb (fun x=>by cases x)).trans x3
   replace x4:=(HF.out.cell (p:=⟨gb,og+1 * 8+4,none⟩) hgb (fun x=>by cases x)).trans x4
   replace x5:=(HF.out.cell (p:=⟨gb,og+1 * 8+5,none⟩) hgb (fun x=>by cases x)).trans x5
   replace x6:=(HF.out.cell (p:=⟨gb,og+1 * 8+6,none⟩) hgb (fun x=>by cases x)).trans x6
   replace x7:=(HF.out.cell (p:=⟨gb,og+1 * 8+7,none⟩) hgb (fun x=>by cases x)).trans x7
   simp only[Nat.zero_mul,Nat.one_mul,Nat.add_zero] at x0 x1 x2 x3 x4 x5 x6 x7
   have hgw:gb<wr.heap.size:=Nat.lt_of_lt_of_le hgb HF.out.size
   have f7:=(Fr.refl [] wr).alloc (.cells #[.string ⟨#[98]⟩,.int .i64 1,.int .i64 0,.int .i64 1,.int .i64 (u:Int),.slice Bf 0 df,.slice Df 0 ef,.int .i64 0] 44)
   have p7:=heap_new wr (.cells #[.string ⟨#[98]⟩,.int .i64 1,.int .i64 0,.int .i64 1,.int .i64 (u:Int),.slice Bf 0 df,.slice Df 0 ef,.int .i64 0] 44)
   have hz7:=World.size_alloc wr (.cells #[.string ⟨#[98]⟩,.int .i64 1,.int .i64 0,.int .i64 1,.int .i64 (u:Int),.slice Bf 0 df,.slice Df 0 ef,.int .i64 0] 44)
   obtain⟨⟨y0,y1,y2,y3,y4,y5,y6,y7⟩,_⟩:=cells8 p7
   have hp7:=lt_of_heap p7
   have F7:=Lib.hid f7
   have k0:=kcJ f7 l0 hgs
   clear hok hty f7 p7
   go_upto_region 10 with(fail)
   clear x0 x1 x2 x3 x4 x5 x6 x7 l0 l1 k0
   generalize wr.alloc (.cells #[.string ⟨#[98]⟩,.int .i64 1,.int .i64 0,.int .i64 1,.int .i64 (u:Int),.slice Bf 0 df,.slice Df 0 ef,.int .i64 0] 44)=w7 at *
   generalize hC:wr.heap.size=C at *
   have HOB:Hid (some C≠(Value.slice Y 1 cy).ownBlock):=Lib.hid (fun e=>by have:=HAS.out.lo C e.symm;omega)
   have HAS7:=Lib.hid (HAS.out.keep F7.out (fun x hx=>by cases hx))
   go_region_held3 (fun w'=>w'.cell? ⟨C,0,none⟩=some (.string ⟨#[98]⟩)∧w'.cell? ⟨C,3,none⟩=some (.int .i64 1)∧w'.cell? ⟨C,4,none⟩=some (.int .i64 (u:Int))∧w'.cell? ⟨C,5,none⟩=some (.slice Bf 0 df)∧w'.cell? ⟨C,6,none⟩=some (.slice Df 0 ef)∧w'.cell? ⟨C,7,none⟩=some (.int .i64 0)) (first|go_keep|exact M9|exact M7)
    ((first|((with_reducible refine(ptext_dig _ u hu hq 0 Bf Df 0 0 df ef).mono ?_);rintro e x6 ⟨rfl,f6⟩;have F6:=(Fr.refl [] w7).drew.trans f6;have M7:=And.intro (kcJ F6 y0 hp7) (And.intro (kcJ F6 y3 hp7) (And.intro (kcJ F6 y4 hp7) (And.intro (kcJ F6 y5 hp7) (And.intro (kcJ F6 y6 hp7) (kcJ F6 y7 hp7)))));have hp6:=Nat.lt_of_lt_of_le hp7 F6.size;have HAP6:=Lib.hid (HAS7.out.keep F6 (fun x hx=>by cases hx)))| (refine step_append_fp (by rfl) _ _ 84 (by rfl) 9 i1 _ 1 16 Tryz.underlying84 HI.out HZ0.out HZ1.out HZ2.out rfl (by decide) (.slice Y 1 cy) 1 (((itS q).take 1).map encStr) (by rfl) (ownsRow_fr HAP6.out.own ((Fr.refl [] x6).alloc (.cells #[.string ⟨#[98,58,32,39,q]⟩] 9)) (fun _ _ x=>by cases x)) ⟨x6.heap.size,0,none⟩ 1 1 [encStr [98,58,32,39,q]] (by rfl) rfl (World.news_of_block (heap_new x6 _)) (by simp[Value.oneCell']) (by simp only[maxLen];omega) (by omega) ?_;intro v9' w9 hown9 hgrow9 hfp9;obtain⟨Y9,cp9,hv9⟩:=own_any hown9;subst hv9;have A6:=(Fr.refl [] x6).alloc (.cells #[.string ⟨#[98,58,32,39,q]⟩] 9);have M9:=And.intro (kcG hgrow9 (kcJ A6 M7.1 hp6) (by rw[World.size_alloc];exact Nat.lt_succ_of_lt hp6) (HOB.out)) (And.intro (kcG hgrow9 (kcJ A6 M7.2.1 hp6) (by rw[World.size_alloc];exact Nat.lt_succ_of_lt hp6) (HOB.out)) (And.intro (kcG hgrow9 (kcJ A6 M7.2.2.1 hp6) (by rw[World.size_alloc];exact Nat.lt_succ_of_lt hp6) (HOB.out)) (And.intro (kcG hgrow9 (kcJ A6 M7.2.2.2.1 hp6) (by rw[World.size_alloc];exact Nat.lt_succ_of_lt hp6) (HOB.out)) (And.intro (kcG hgrow9 (kcJ A6 M7.2.2.2.2.1 hp6) (by rw[World.size_alloc];exact Nat.lt_succ_of_lt hp6) (HOB.out)) (kcG hgrow9 (kcJ A6 M7.2.2.2.2.2 hp6) (by rw[World.size_alloc];exact Nat.lt_succ_of_lt hp6) (HOB.out)))))))))
   all_goals
    have hap:=Lib.hid ((HAP6.out.keep A6 (fun x hx=>by cases hx)).app (by have h1:=F7.out.size;have h2:=F6.size;have h3:=A6.size;omega) hown9 hfp9)
    have hff:=Lib.hid ((HF.out.trans (F7.out.trans (F6.trans A6))).grown hgrow9 (fun k e => .inr (by have:=(HAS.out.lo k e).1;omega)))
    have hgg:=Lib.hid ((hgrow9.block T (lt_of_heap (A6.keep (F6.keep (F7.out.keep HG.out (fun x=>by cases x)) (fun x=>by cases x)) (fun x=>by cases x))) (fun e=>by have:=(HAS.out.lo T e.symm).1;omega)).trans (A6.keep (F6.keep (F7.out.keep HG.out (fun x=>by cases x)) (fun x=>by cases x)) (fun x=>by cases x)))
    clear hown9 hgrow9 hfp9 M9 M7 A6 F6 f6
    go_wp2_with fail
    go_roundw
    case rel=>exact⟨1+1,Y9,cp9,by first|rfl|simp,by first|rfl|simp|go_num,by omega,hap,hff,hgg⟩
    case measure=>simp[intOf]
  ·have q5:¬ (2:Int)<2:=by decide
   have hrz:((r:Int)==0)=false:=beq_eq_false_iff_ne.2 (by omega)
   have hrz2:((r:Int)!=0)=true:=by simp;omega
   rcases HAS.out.form with⟨_,_,e⟩| ⟨g,cur,rfl,e0,e1,e2,e4,_,_,e3⟩
   ·exact absurd e (by simp[itS])
   have cJ:=Tryz.strings_Join g 0 cy [⟨#[97,58,32,105,110,116]⟩,⟨#[98,58,32,39,q]⟩] ⟨#[44,32]⟩ wr (fun j x hj=>by
    match j,hj with
    | 0,hj=>cases hj;rw[cell_of e2,e3 0 _ rfl] <;> rfl
    | 1,hj=>cases hj;rw[cell_of e2,e3 1 _ rfl] <;> rfl
    | n+2,hj=>simp at hj) e1 (by simp) e4 (by simp[Lib.join,List.intercalate,List.intersperse])
   have hjn:(Lib.join ([(⟨#[97,58,32,105,110,116]⟩:ByteArray),⟨#[98,58,32,39,q]⟩].map (·.data.toList)) (⟨#[44,32]⟩:ByteArray).data.toList).toArray = #[97,58,32,105,110,116,44,32,98,58,32,39,q]:=rfl
   rw[hjn] at cJ
   have CJ:=Lib.hid cJ
   have cI:=fun X=>Lib.hid (Tryz.strconv_Itoa_small r (by omega) X)
   rw[Lib.decDigits_one hr,hq2] at cI
   clear cJ hjn e2 e3 e0
   go_wp2_with fail
   refine CJ.out.mono ?_
   rintro e w6 ⟨rfl,hb⟩
   have f6:=Fr.of_below hb
   have j1:=f6.keep HG.out (fun x=>by cases x)
   have HF6:=Lib.hid (HF.out.trans f6)
   clear l0 l1 hgs hb f6 CJ
   obtain⟨⟨l0,l1⟩,_⟩:=cells2 j1
   have hgs:=lt_of_heap j1
   clear j1
   go_wp2_with fail
   refine(cI _).out.mono ?_
   rintro e w7 ⟨rfl,rfl⟩
   go_wp2_with fail
   go_ret
   exact⟨by first|rfl|simp,HF6.out⟩
theorem ptext_row{w:World}{ok:Nat→Prop}{P:List UInt8→Prop}{u r:Nat}{q q2:UInt8}{A B:Option Addr}{c d:Nat}(hu:u<10)(hr:r<10)(hq:UInt8.ofNat (48+u)=q)(hq2:UInt8.ofNat (48+r)=q2)(hr0:0<r)(hfs:FsAt w ok P (.slice B 2 d) (fsI u)):
  Calls Tryz.prog 24 #[.agg #[.int .i64 10,.int .i64 0,.slice A 0 c,.slice B 2 d,.int .i64 (r:Int)]] w fun e w'=>e = .returned (.string ⟨#[123,97,58,32,105,110,116,44,32,98,58,32,39,q,124,32,q2,125]⟩)∧Fr [] w w':=by
 have f0:=(Fr.refl [] w).alloc (.cells #[.int .i64 10,.int .i64 0,.slice A 0 c,.slice B 2 d,.int .i64 (r:Int)] 27)
 have g0:=heap_new w (.cells #[.int .i64 10,.int .i64 0,.slice A 0 c,.slice B 2 d,.int .i64 (r:Int)] 27)
 obtain⟨⟨l0,l1,l2,l3,l4⟩,_⟩:=cells5 g0
 have hgs:=lt_of_heap g0
 have cF:=Lib.hid (pfields_any hu hr hq hq2 hr0 (hfs.keep (w':=w.alloc (.cells #[.int .i64 10,.int .i64 0,.slice A 0 c,.slice B 2 d,.int .i64 (r:Int)] 27)) (ok':=fun _=>True) (fun b _ hlt=>⟨trivial,f0.block b hlt (fun x=>by cases x),Nat.lt_of_lt_of_le hlt f0.size⟩)))
 have HF:=Lib.hid f0
 clear f0 g0 hfs
 go_enter Tryz.func24,Tryz.ntmps24
 go_wp2_with fail
 refine cF.out.mono ?_
 rintro e w6 ⟨rfl,f6⟩
 have HF6:=Lib.hid (HF.out.trans f6)
 clear f6 cF
 go_wp2_with fail
 go_ret
 exact⟨by first|rfl|simp,HF6.out⟩
end
end
section
open Go.RowKit Go.Sort
variable [LoB]
@[reducible] def exP(E:Ex) (L:List Nat):Ex:=⟨fun b=>E.ex b∨b ∈ L⟩
section
variable {E E':Ex} {w w':World} {P:List UInt8→Prop} {Q:Nat} {M0 M1 M2:Option Nat} {G:Ctx} {R:Raw} {A:Ab}
theorem solU_ex(h:@SolU _ E w P Q M0 M1 M2 G R A){K:List Nat}(hf:Fr K w w')(hd:∀ x ∈ solL Q M0 M1 M2,x ∉ K)(hS:Sh w w' (@okW _ E w) (@okW _ E' w'))(hE:∀ b,E'.ex b→b<w'.heap.size):@SolU _ E' w' P Q M0 M1 M2 G R A:=by
 obtain⟨⟨⟨⟨A1,c,B,d,A1',c',B',d',g,g1,g2⟩,ht,hp,hr,n0,n1,hi⟩,rk,rep,so,sw,raw,few⟩,ok,ex⟩:=h
 refine⟨⟨⟨⟨A1,c,B,d,A1',c',B',d',hf.keep g (hd Q (by simp[solL])),g1.keep hS,g2.keep hS⟩,?_,?_,?_,n0,n1,hi⟩,rk,rep,so,sw,raw,few⟩,ok,hE⟩
 ·exact ht.keep hf (fun x e=>hd x (solL_mem.2 (.inr (.inl e)))) (fun x u hx=>by obtain⟨A,c,B,d,k1,k2⟩:=hx;exact⟨A,c,B,d,k1.keep hS,k2⟩)
 ·exact hp.keep hf (fun x e=>hd x (solL_mem.2 (.inr (.inr (.inl e))))) (fun x u h=>h)
 ·exact hr.keep hf (fun x e=>hd x (solL_mem.2 (.inr (.inr (.inr e))))) (fun x u hx=>by obtain⟨B,d,k1,k2⟩:=hx;exact⟨B,d,k1.keep hS,k2⟩)
theorem sh_exP{L L' K:List Nat}(hf:Fr K w w')(hK:∀ x ∈ K,x ∈ L)(hL:∀ x ∈ L',x ∈ L∨w.heap.size≤x):Sh w w' (@okW _ (exP E L) w) (@okW _ (exP E L') w'):=fun b hb hlt=>by
 obtain⟨cs,T,f,h1,h2,h3⟩:=hb
 have hk:=hf.block b hlt (fun hx=>h3 (.inr (hK b hx)))
 refine⟨⟨cs,T,f,hk.trans h1,h2,fun c=>?_⟩,hk,Nat.lt_of_lt_of_le hlt hf.size⟩
 rcases c with c|c
 ·exact h3 (.inl c)
 ·rcases hL b c with e|e
  ·exact h3 (.inr e)
  ·omega
theorem solU_exP{L L' K:List Nat}(h:@SolU _ (exP E L) w P Q M0 M1 M2 G R A)(hf:Fr K w w')(hd:∀ x ∈ solL Q M0 M1 M2,x ∉ K)(hK:∀ x ∈ K,x ∈ L)(hL:∀ x ∈ L',x ∈ L∨w.heap.size≤x)(hlt:∀ x ∈ L',x<w'.heap.size):@SolU _ (exP E L') w' P Q M0 M1 M2 G R A :=
 solU_ex h hf hd (sh_exP hf hK hL) (fun b hb=>hb.elim (fun c=>by obtain⟨_,_,ex⟩:=h;exact Nat.lt_of_lt_of_le (ex b (.inl c)) hf.size) (hlt b))
theorem solU_drop{L:List Nat}(h:@SolU _ (exP E L) w P Q M0 M1 M2 G R A):@SolU _ E w P Q M0 M1 M2 G R A :=
 solU_ex h (Fr.refl [] w) (fun x _ hx=>by cases hx) (fun b ⟨cs,T,f,h1,h2,h3⟩ hlt=>⟨⟨cs,T,f,h1,h2,fun c=>h3 (.inl c)⟩,rfl,hlt⟩) (fun b hb=>by obtain⟨_,_,ex⟩:=h;exact ex b (.inl hb))
theorem solU_nil(h:@SolU _ E w P Q M0 M1 M2 G R A):@SolU _ (exP E []) w P Q M0 M1 M2 G R A :=
 solU_ex h (Fr.refl [] w) (fun x _ hx=>by cases hx) (fun b ⟨cs,T,f,h1,h2,h3⟩ hlt=>⟨⟨cs,T,f,h1,h2,fun c=>by rcases c with c|c;exact h3 c;cases c⟩,rfl,hlt⟩) (fun b hb=>by rcases hb with c|c;exact h.ex b c;cases c)
end
structure UmD where
 w:World
 P:List UInt8→Prop
 T1:Nat
 T2:Nat
 A1:Option Addr
 a1:Nat
 x1:List FdM
 e1:Int
 A2:Option Addr
 a2:Nat
 x2:List FdM
 e2:Int
 A7:Option Addr
 zs:List (List UInt8)
 bV:Nat
 bL:Nat
 bO:Nat
 Ms:List Nat
def UmD.sw(D:UmD):UmD:=⟨D.w,D.P,D.T2,D.T1,D.A2,D.a2,D.x2,D.e2,D.A1,D.a1,D.x1,D.e1,D.A7,D.zs,D.bV,D.bL,D.bO,D.Ms⟩
variable [Ex]
theorem RowM.fs2{w0 w:World}{P:List UInt8→Prop}{g:Nat}{l:List FdM}{cap:Nat}(h:RowM w0 P w g l)(hx:¬ Ex.ex g)(hc:l.length≤cap)(hS:Sh w0 w (okW w0) (okW w)):FsAt w (okW w) P (.slice (some ⟨g,0,none⟩) l.length cap) (l.map (·.fd)):=by
 have hg:okW w g:=by
  obtain⟨cur,h1,_⟩:=h.blk
  exact⟨cur,_,_,h1,fun c=>absurd c (by decide),hx⟩
 have get:∀ (i:Nat) (f:Fd),(l.map (·.fd))[i]?=some f→∃ x,l[i]?=some x∧x.fd=f:=fun i f hi=>by
  rw[List.getElem?_map] at hi
  cases e:l[i]? with
  | none=>rw[e] at hi;cases hi
  | some x=>rw[e] at hi;exact⟨x,rfl,by simpa using hi⟩
 refine⟨fun i=>match l[i]? with|some x=>hdF x.fd|none=>[],fun i=>match l[i]? with|some x=>(encF x).drop 3|none=>[],.inr ⟨g,0,cap,by rw[List.length_map],hg,h.lt,by rw[List.length_map];exact hc,fun i hi=>?_⟩,fun i f hi=>?_,fun i f hi=>?_⟩
 ·rw[List.length_map] at hi
  have e:l[i]?=some l[i]:=List.getElem?_eq_getElem hi
  dsimp only
  rw[e]
  refine⟨rfl,fun j v hv=>?_⟩
  obtain⟨cur,h1,h2,h3⟩:=h.blk
  have hj:j<8:=(List.getElem?_eq_some_iff.1 hv).1
  rw[cell_of h1,Nat.zero_add,h3 _ (by omega)]
  exact flat_at e hv
 ·obtain⟨x,hx,rfl⟩:=get i f hi
  dsimp only
  rw[hx]
  exact⟨rfl,(h.ok x (List.mem_of_getElem? hx)).1⟩
 ·obtain⟨x,hx,rfl⟩:=get i f hi
  dsimp only
  rw[hx]
  exact(h.ok x (List.mem_of_getElem? hx)).2.keep hS
structure UmM (D:UmD)(O1:Option Addr)(s1:Nat)(o1:List FdM)(O2:Option Addr)(s2:Nat)(o2:List FdM)(L:List Nat)(i:Nat)(wr:World):Prop where
 b1:wr.heap[D.T1]?=some (.cells #[.slice D.A1 D.x1.length D.a1,.int .i64 D.e1] 25 (0,0))
 b2:wr.heap[D.T2]?=some (.cells #[.slice D.A2 D.x2.length D.a2,.int .i64 D.e2] 25 (0,0))
 v1:RowV D.w D.P wr D.x1 D.A1 D.a1 D.bV
 v2:RowV D.w D.P wr D.x2 D.A2 D.a2 D.bV
 lb:LabAt D.bL wr D.A7 D.zs
 p1:AppR D.bO D.w D.P wr O1 s1 o1
 p2:AppR D.bO D.w D.P wr O2 s2 o2
 l1:∀ g,(Value.slice O1 o1.length s1).ownBlock=some g→g ∈ L
 l2:∀ g,(Value.slice O2 o2.length s2).ownBlock=some g→g ∈ L
 ne:∀ g,(Value.slice O1 o1.length s1).ownBlock=some g→(Value.slice O2 o2.length s2).ownBlock≠some g
 lo:∀ x ∈ L,D.bO≤x∧x<wr.heap.size
 lt:∀ a,(D.A1=some a∨D.A2=some a∨D.A7=some a)→a.block<D.bO
 q1:o1.map (·.fd)=onlyL (D.x1.map (·.fd)) (D.x2.map (·.fd)) (D.zs.take i)
 q2:o2.map (·.fd)=onlyL (D.x2.map (·.fd)) (D.x1.map (·.fd)) (D.zs.take i)
 fr:Fr D.Ms D.w wr
 sz:D.w.heap.size≤D.bO∧D.T1<D.bO∧D.T2<D.bO∧D.bO≤wr.heap.size
section
variable {D:UmD} {O1:Option Addr} {s1:Nat} {o1:List FdM} {O2:Option Addr} {s2:Nat} {o2:List FdM} {L:List Nat} {i:Nat} {wr w':World}
theorem RowV.keepB{w0 w w':World}{P:List UInt8→Prop}{X:Option Addr}{c base:Nat}{l:List FdM}{K:List Nat}(h:RowV w0 P w l X c base)(hf:Fr K w w')(hK:∀ a,X=some a→a.block ∉ K):RowV w0 P w' l X c base:=by
 rcases h with h|⟨g,h1,h2,h3,h4⟩
 ·exact .inl h
 ·exact .inr ⟨g,h1,h2,h3.keep hf (hK _ h1),h4⟩
theorem LabAt.keepB{base:Nat}{w w':World}{A:Option Addr}{zs:List (List UInt8)}{K:List Nat}(h:LabAt base w A zs)(hf:Fr K w w')(hK:∀ a,A=some a→a.block ∉ K):LabAt base w' A zs:=by
 rcases h with h|⟨g,cur,h1,h2,h3,h4⟩
 ·exact .inl h
 ·exact .inr ⟨g,cur,h1,h2,hf.keep h3 (hK _ h1),h4⟩
theorem UmM.symm(h:UmM D O1 s1 o1 O2 s2 o2 L i wr):UmM D.sw O2 s2 o2 O1 s1 o1 L i wr :=
 ⟨h.b2,h.b1,h.v2,h.v1,h.lb,h.p2,h.p1,h.l2,h.l1,fun g e e'=>h.ne g e' e,h.lo,fun a ha=>h.lt a (by rcases ha with c|c|c;exact .inr (.inl c);exact .inl c;exact .inr (.inr c)),h.q2,h.q1,h.fr,⟨h.sz.1,h.sz.2.2.1,h.sz.2.1,h.sz.2.2.2⟩⟩
theorem UmM.keepS{S:List Nat}(h:UmM D O1 s1 o1 O2 s2 o2 L i wr)(hf:Fr S wr w')(hap:∀ (b:Nat)(cs:Array Value)(T:TypeId)(f:Nat×Nat),wr.heap[b]?=some (.cells cs T f)→T≠58→b ∉ S)(hS:∀ x ∈ S,x ∈ D.Ms∨D.w.heap.size≤x):UmM D O1 s1 o1 O2 s2 o2 L i w':=by
 have rv:∀ {x:List FdM} {X:Option Addr} {c:Nat},RowV D.w D.P wr x X c D.bV→RowV D.w D.P w' x X c D.bV:=fun hv=>by
  rcases hv with hv|⟨g,h1,h2,h3,h4⟩
  ·exact .inl hv
  ·obtain⟨cur,k1,_⟩:=h3.blk
   exact .inr ⟨g,h1,h2,h3.keep hf (hap _ _ _ _ k1 (by decide)),h4⟩
 have ap:∀ {x:List FdM} {X:Option Addr} {c:Nat},AppR D.bO D.w D.P wr X c x→AppR D.bO D.w D.P w' X c x:=fun hv=>by
  refine hv.keep2 hf (fun g e=>?_)
  rcases hv.own.2 with⟨hv,_⟩| ⟨g',cap,cur,hv,_,h2,_⟩
  ·rw[hv] at e;cases e
  ·rw[hv] at e;cases e;exact hap _ _ _ _ h2 (by decide)
 exact⟨hf.keep h.b1 (hap _ _ _ _ h.b1 (by decide)),hf.keep h.b2 (hap _ _ _ _ h.b2 (by decide)),rv h.v1,rv h.v2,h.lb.keep hf (fun g cur k _=>hap _ _ _ _ k (by decide)),ap h.p1,ap h.p2,h.l1,h.l2,h.ne,fun x hx=>⟨(h.lo x hx).1,Nat.lt_of_lt_of_le (h.lo x hx).2 hf.size⟩,h.lt,h.q1,h.q2,h.fr.step hf hS,⟨h.sz.1,h.sz.2.1,h.sz.2.2.1,Nat.le_trans h.sz.2.2.2 hf.size⟩⟩
theorem UmM.keep0(h:UmM D O1 s1 o1 O2 s2 o2 L i wr)(hf:Fr [] wr w'):UmM D O1 s1 o1 O2 s2 o2 L i w':=h.keepS hf (fun _ _ _ _ _ _ hx=>by cases hx) (fun x hx=>by cases hx)
theorem UmM.sh(h:UmM D O1 s1 o1 O2 s2 o2 L i wr)(hno:∀ x ∈ D.Ms,¬ okW D.w x):Sh D.w wr (okW D.w) (okW wr):=sh_ok h.fr hno
theorem UmM.fs1(h:UmM D O1 s1 o1 O2 s2 o2 L i wr)(hno:∀ x ∈ D.Ms,¬ okW D.w x)(hE:∀ b,Ex.ex b→b<D.w.heap.size):FsAt wr (okW wr) D.P (.slice O1 o1.length s1) (o1.map (·.fd)):=by
 rcases h.p1.done h.sz.1 with⟨rfl,rfl,rfl⟩| ⟨g,rfl,hb,hrm,hcap⟩
 ·exact FsAt.nil none 0
 ·exact hrm.fs2 (fun hg=>by have h1:=hE g hg;have h2:=h.sz.1;omega) hcap (h.sh hno)
theorem UmM.fs2(h:UmM D O1 s1 o1 O2 s2 o2 L i wr)(hno:∀ x ∈ D.Ms,¬ okW D.w x)(hE:∀ b,Ex.ex b→b<D.w.heap.size):FsAt wr (okW wr) D.P (.slice O2 o2.length s2) (o2.map (·.fd)):=h.symm.fs1 hno hE
theorem UmM.skip(h:UmM D O1 s1 o1 O2 s2 o2 L i wr){x:List UInt8}(hx:D.zs[i]?=some x)(h1:one1 (D.x1.map (·.fd)) (D.x2.map (·.fd)) x=[])(h2:one1 (D.x2.map (·.fd)) (D.x1.map (·.fd)) x=[]):UmM D O1 s1 o1 O2 s2 o2 L (i+1) wr :=
 { h with
  q1:=by rw[List.take_add_one,hx,Option.toList_some,onlyL_snoc,h1,List.append_nil];exact h.q1
  q2:=by rw[List.take_add_one,hx,Option.toList_some,onlyL_snoc,h2,List.append_nil];exact h.q2 }
theorem UmM.app1(h:UmM D O1 s1 o1 O2 s2 o2 L i wr){x:List UInt8}(hx:D.zs[i]?=some x){z:FdM}(hz:FdOk D.w D.P z)(h1:one1 (D.x1.map (·.fd)) (D.x2.map (·.fd)) x=[z.fd])(h2:one1 (D.x2.map (·.fd)) (D.x1.map (·.fd)) x=[]){wX:World}(fX:Fr [] wr wX){A':Option Addr}{c':Nat}
  (hown:w'.ownsRow 0 44 8 (.slice A' (o1.length+1) c') (o1.length+1) (o1.flatMap encF++encF z)) (hg:wX.grownBy w' (Value.slice O1 o1.length s1).ownBlock) (hfp:FpOf (.slice O1 o1.length s1) (.slice A' (o1.length+1) c') wX.heap.size):
  UmM D A' c' (o1++[z]) O2 s2 o2 (L++aBlk A') (i+1) w'∧(∀ x ∈ L++aBlk A',x ∈ L∨wr.heap.size≤x)∧∃ K,Fr K wr w'∧(∀ x ∈ K,x ∈ L)∧(∀ x ∈ K,∃ cs,wr.heap[x]?=some (.cells cs 44 (0,0))):=by
 have hK:∀ k ∈ (Value.slice O1 o1.length s1).ownBlock.toList,k ∈ L:=fun k hk=>h.l1 k (Option.mem_toList.1 hk)
 have hf:Fr (Value.slice O1 o1.length s1).ownBlock.toList wr w':=(fX.mono (L':=(Value.slice O1 o1.length s1).ownBlock.toList) (fun x hx=>by cases hx)).grown hg (fun k e => .inl (Option.mem_toList.2 e))
 have hKb:∀ k,k<D.bO→k ∉ (Value.slice O1 o1.length s1).ownBlock.toList:=fun k hk hx=>by have:=(h.lo k (hK k hx)).1;omega
 have e1:(o1++[z]).length=o1.length+1:=by simp
 have hnb:∀ g,(Value.slice A' (o1.length+1) c').ownBlock=some g→(Value.slice O1 o1.length s1).ownBlock=some g∨wr.heap.size≤g:=fun g e=>(hfp g e).imp id (fun c=>Nat.le_trans fX.size c)
 have hlt9:∀ g,(Value.slice A' (o1.length+1) c').ownBlock=some g→g<w'.heap.size:=fun g e=>by
  rcases hown.2 with⟨hv,_⟩| ⟨g',cap,cur,hv,_,k2,_⟩
  ·rw[hv] at e;cases e
  ·rw[hv] at e;cases e;exact lt_of_heap k2
 have hab:∀ x ∈ aBlk A',(Value.slice A' (o1.length+1) c').ownBlock=some x:=fun x hx=>by
  cases A' with
  | none=>cases hx
  | some a=>simp[aBlk] at hx;simp[Value.ownBlock,hx]
 refine⟨⟨hf.keep h.b1 (hKb _ h.sz.2.1),hf.keep h.b2 (hKb _ h.sz.2.2.1),h.v1.keepB hf (fun a e=>hKb _ (h.lt a (.inl e))),h.v2.keepB hf (fun a e=>hKb _ (h.lt a (.inr (.inl e)))),h.lb.keepB hf (fun a e=>hKb _ (h.lt a (.inr (.inr e)))),
  (h.p1.keep fX (fun x hx=>by cases hx)).app hz (Nat.le_trans h.sz.2.2.2 fX.size) hown hg hfp,h.p2.keep2 hf (fun g e hx=>h.ne g (Option.mem_toList.1 hx) e),fun g e=>?_,fun g e=>List.mem_append_left _ (h.l2 g e),fun g e e'=>?_,fun x hx=>?_,h.lt,?_,?_,?_,⟨h.sz.1,h.sz.2.1,h.sz.2.2.1,Nat.le_trans h.sz.2.2.2 hf.size⟩⟩,fun x hx=>?_,_,hf,hK,fun x hx=>?_⟩
 ·rw[e1] at e
  rw[List.mem_append]
  right
  cases A' with
  | none=>cases e
  | some a=>simp[Value.ownBlock] at e;simp[aBlk,e]
 ·rw[e1] at e
  rcases hnb g e with c|c
  ·exact h.ne g c e'
  ·have:=(h.lo g (h.l2 g e')).2;omega
 ·rcases List.mem_append.1 hx with c|c
  ·exact⟨(h.lo x c).1,Nat.lt_of_lt_of_le (h.lo x c).2 hf.size⟩
  ·refine⟨?_,hlt9 x (hab x c)⟩
   rcases hnb x (hab x c)with e|e
   ·exact(h.lo x (h.l1 x e)).1
   ·exact Nat.le_trans h.sz.2.2.2 e
 ·rw[List.take_add_one,hx,Option.toList_some,onlyL_snoc,h1,List.map_append,h.q1];rfl
 ·rw[List.take_add_one,hx,Option.toList_some,onlyL_snoc,h2,List.append_nil];exact h.q2
 ·exact h.fr.step hf (fun x hx => .inr (Nat.le_trans h.sz.1 (h.lo x (hK x hx)).1))
 ·rcases List.mem_append.1 hx with c|c
  ·exact .inl c
  ·exact(hnb x (hab x c)).imp (h.l1 x) id
 ·rw[Option.mem_toList] at hx
  rcases h.p1.own.2 with⟨hv,_⟩| ⟨g',cap,cur,hv,_,k2,_⟩
  ·rw[hv] at hx;cases hx
  ·rw[hv] at hx;cases hx;exact⟨_,k2⟩
theorem RowV.blt{w0 w:World}{P:List UInt8→Prop}{X:Option Addr}{c base:Nat}{l:List FdM}(h:RowV w0 P w l X c base):∀ a,X=some a→a.block<w.heap.size:=fun a e=>by
 rcases h with⟨h,_⟩| ⟨g,h1,_,h3,_⟩
 ·rw[h] at e;cases e
 ·rw[h1] at e;cases e;exact h3.lt
theorem UmM.app2(h:UmM D O1 s1 o1 O2 s2 o2 L i wr){x:List UInt8}(hx:D.zs[i]?=some x){z:FdM}(hz:FdOk D.w D.P z)(h1:one1 (D.x1.map (·.fd)) (D.x2.map (·.fd)) x=[])(h2:one1 (D.x2.map (·.fd)) (D.x1.map (·.fd)) x=[z.fd]){wX:World}(fX:Fr [] wr wX){A':Option Addr}{c':Nat}
  (hown:w'.ownsRow 0 44 8 (.slice A' (o2.length+1) c') (o2.length+1) (o2.flatMap encF++encF z)) (hg:wX.grownBy w' (Value.slice O2 o2.length s2).ownBlock) (hfp:FpOf (.slice O2 o2.length s2) (.slice A' (o2.length+1) c') wX.heap.size):
  UmM D O1 s1 o1 A' c' (o2++[z]) (L++aBlk A') (i+1) w'∧(∀ x ∈ L++aBlk A',x ∈ L∨wr.heap.size≤x)∧∃ K,Fr K wr w'∧(∀ x ∈ K,x ∈ L)∧(∀ x ∈ K,∃ cs,wr.heap[x]?=some (.cells cs 44 (0,0))):=by
 obtain⟨a,b⟩:=h.symm.app1 hx hz h2 h1 fX hown hg hfp
 exact⟨a.symm,b⟩
end
omit [Ex] in
theorem solU_fr{E:Ex}{w w':World}{P:List UInt8→Prop}{Q:Nat}{M0 M1 M2:Option Nat}{G:Ctx}{R:Raw}{A:Ab}(h:@SolU _ E w P Q M0 M1 M2 G R A)(hf:Fr [] w w'):@SolU _ E w' P Q M0 M1 M2 G R A:=@SolU.fr _ E _ _ _ _ _ _ _ _ _ _ h hf
omit [Ex] in
theorem solU_apart{E:Ex}{w:World}{P:List UInt8→Prop}{Q:Nat}{M0 M1 M2:Option Nat}{G:Ctx}{R:Raw}{A:Ab}(h:@SolU _ E w P Q M0 M1 M2 G R A)(b:Nat)(cs:Array Value)(T:TypeId)(f:Nat×Nat)(hb:w.heap[b]?=some (.cells cs T f))(hT:T≠58):b ∉ solL Q M0 M1 M2:=@SolU.apart _ E _ _ _ _ _ _ _ _ _ h _ _ _ _ hb hT
omit [Ex] in
theorem UmM.shx{E:Ex}{D:UmD}{O1:Option Addr}{s1:Nat}{o1:List FdM}{O2:Option Addr}{s2:Nat}{o2:List FdM}{L:List Nat}{i:Nat}{wr:World}(h:@UmM _ E D O1 s1 o1 O2 s2 o2 L i wr)(hno:∀ x ∈ D.Ms,¬ @okW _ E D.w x):Sh D.w wr (@okW _ E D.w) (@okW _ (exP E L) wr):=fun b hb hlt=>by
 obtain⟨⟨cs,T,f,h1,h2,h3⟩,h4,h5⟩:=(@UmM.sh _ E _ _ _ _ _ _ _ _ _ _ h hno) b hb hlt
 refine⟨⟨cs,T,f,h1,h2,fun c=>?_⟩,h4,h5⟩
 rcases c with c|c
 ·exact h3 c
 ·have a1:=(h.lo b c).1
  have a2:=h.sz.1
  omega
end
section
attribute [local go_sem ↓] Go.wp_at_zero Go.wp_at_succ
section
open Go.RowKit Go.Sort
variable [LoB]
theorem unifyRows_step{n:Nat}(ihU:∀ E:Ex,@UNC _ E n)(ihR:∀ E:Ex,@URC _ E n)(E:Ex):@URC _ E (n+1):=by
 intro w P Q M0 M1 M2 G R A k C F Gs ra rb B1 B2 d1 d2 r hr h hm ht t1 t2
 obtain⟨L1,e1,hL1,hR1⟩:=h.sw.row ht.wq ht.rq t1
 obtain⟨L2,e2,hL2,hR2⟩:=h.sw.row ht.wp ht.rp t2
 have hq:apRow A.s F ra=(apFs A.s L1,e1):=Prod.ext hL1.same.symm hL1.end_
 have hp:apRow A.s Gs rb=(apFs A.s L2,e2):=Prod.ext hL2.same.symm hL2.end_
 rw[uniR,hq,hp] at hr
 simp only[lsOf_ap,only_ap] at hr
 obtain⟨rm,hrm,hcase⟩:∃ rm,uniM n A (apFs A.s L1,e1) (apFs A.s L2,e2) (lsOf L1 L2)=some rm∧((rm.1≠0∧r=rm)∨(rm.1=0∧(if (told rm.2 e1||told rm.2 e2)=true then uniR n rm.2 (apFs A.s (onlyL L1 L2 (lsOf L1 L2))) e1 (apFs A.s (onlyL L2 L1 (lsOf L1 L2))) e2 else some (restsA rm.2 e1 e2 (apFs A.s (onlyL L1 L2 (lsOf L1 L2))) (apFs A.s (onlyL L2 L1 (lsOf L1 L2)))))=some r)):=by
  cases e:uniM n A (apFs A.s L1,e1) (apFs A.s L2,e2) (lsOf L1 L2)with
  | none=>rw[e] at hr;cases hr
  | some rm =>
   rw[e] at hr
   obtain⟨e0,A0⟩:=rm
   dsimp only at hr
   by_cases c:e0=0
   ·rw[if_neg (by rw[c];simp)] at hr;exact⟨_,rfl,.inr ⟨c,hr⟩⟩
   ·rw[if_pos c] at hr;exact⟨_,rfl,.inl ⟨c,(Option.some.inj hr).symm⟩⟩
 have c1:=fun X hX=>Lib.hid (hR1 X hX)
 have c2:=fun X hX=>Lib.hid (hR2 X hX)
 have f0:=((Fr.refl [] w).alloc (.cells #[.slice B1 F.length d1,.int .i64 ra] 25)).alloc (.cells #[.slice B2 Gs.length d2,.int .i64 rb] 25)
 have g0:=heap_old (heap_new w (.cells #[.slice B1 F.length d1,.int .i64 ra] 25)) (.cells #[.slice B2 Gs.length d2,.int .i64 rb] 25)
 have g1:=heap_new (w.alloc (.cells #[.slice B1 F.length d1,.int .i64 ra] 25)) (.cells #[.slice B2 Gs.length d2,.int .i64 rb] 25)
 rw[World.size_alloc] at g1
 have H:=Lib.hid h
 have IHU:=Lib.hid ihU
 have IHR:=Lib.hid ihR
 have HM:=Lib.hid hm
 have HRM:=Lib.hid hrm
 have HCA:=Lib.hid hcase
 have HL1:=Lib.hid hL1
 have HL2:=Lib.hid hL2
 have F0:=Lib.hid f0
 have hq:=h.sw.at_.lt
 have hz2:(w.alloc (.cells #[.slice B1 F.length d1,.int .i64 ra] 25)).heap.size=w.heap.size+1:=World.size_alloc _ _
 have hz3:((w.alloc (.cells #[.slice B1 F.length d1,.int .i64 ra] 25)).alloc (.cells #[.slice B2 Gs.length d2,.int .i64 rb] 25)).heap.size=w.heap.size+1+1:=by rw[World.size_alloc,World.size_alloc]
 obtain⟨⟨l0,l1⟩,_⟩:=cells2 g0
 obtain⟨⟨k0,k1⟩,_⟩:=cells2 g1
 have hs0:=lt_of_heap g0
 have hs1:=lt_of_heap g1
 clear h ihU ihR hm hr hrm hcase hL1 hL2 hR1 hR2 hp ht t1 t2 f0
 clear hq
 have hq:=H.out.sw.at_.lt
 go_enter Tryz.func46,Tryz.ntmps46
 go_wp2_with fail
 generalize (w.alloc (.cells #[.slice B1 F.length d1,.int .i64 ra] 25)).alloc (.cells #[.slice B2 Gs.length d2,.int .i64 rb] 25)=w2 at *
 generalize hT:w.heap.size=T at *
 have n0:¬ T=T+1:=by omega
 have n1:¬ T+1=T:=by omega
 go_cut [] (fun wx=>∃ (x1 x2:List FdM) (A1:Option Addr) (a1:Nat) (A2:Option Addr) (a2:Nat),Hid (wx.heap[T]?=some (.cells #[.slice A1 x1.length a1,.int .i64 e1] 25 (0,0)))∧Hid (wx.heap[T+1]?=some (.cells #[.slice A2 x2.length a2,.int .i64 e2] 25 (0,0)))∧
  Hid (RowV w P wx x1 A1 a1 (T+2))∧Hid (RowV w P wx x2 A2 a2 (T+2))∧Hid (x1.map (·.fd)=L1)∧Hid (x2.map (·.fd)=L2)∧Hid (Fr [] w wx))
 case first =>
   refine wp_region_tail2 6 (fun w'=>Fr [] w2 w') (by kernel_rfl) (by kernel_rfl) (by kernel_rfl) rfl rfl ((Fr.refl [] w2).drew) (fun K K' hK hK' hHeld=>?hsp)
   dsimp only[List.take]
   refine held_take (i:=0) (v:=?vp_0) rfl (by kernel_rfl) (by kernel_rfl) (by kernel_rfl) (fun _ _ _ h=>h) (Or.inl ⟨by rfl,?yp_0⟩) hHeld ?rp_0
   case yp_0 =>
     intro w' hSw
     go_simp
     (try with_reducible rfl)
   (try simp only[Act.put,List.setIfInBounds_toArray,List.set_cons_zero,List.set_cons_succ])
   refine held_take (i:=1) (v:=?vp_1) rfl (by kernel_rfl) (by kernel_rfl) (by kernel_rfl) (fun _ _ _ h=>h) (Or.inl ⟨by rfl,?yp_1⟩) hHeld ?rp_1
   case yp_1 =>
     intro w' hSw
     have hg:=Fr.keep (show Fr [] w2 w' from hSw) g0 (fun x=>by cases x)
     have hc:=cells2 hg
     have hl:=lt_of_heap hg
     go_simp
     (try with_reducible rfl)
   (try simp only[Act.put,List.setIfInBounds_toArray,List.set_cons_zero,List.set_cons_succ])
   refine held_take (i:=3) (v:=?vp_3) rfl (by kernel_rfl) (by kernel_rfl) (by kernel_rfl) (fun _ _ _ h=>h) (Or.inl ⟨by rfl,?yp_3⟩) hHeld ?rp_3
   case yp_3 =>
     intro w' hSw
     go_simp
     (try with_reducible rfl)
   (try simp only[Act.put,List.setIfInBounds_toArray,List.set_cons_zero,List.set_cons_succ])
   refine held_take (i:=4) (v:=?vp_4) rfl (by kernel_rfl) (by kernel_rfl) (by kernel_rfl) (fun _ _ _ h=>h) (Or.inl ⟨by rfl,?yp_4⟩) hHeld ?rp_4
   case yp_4 =>
     intro w' hSw
     have hg:=Fr.keep (show Fr [] w2 w' from hSw) g1 (fun x=>by cases x)
     have hc:=cells2 hg
     have hl:=lt_of_heap hg
     go_simp
     (try with_reducible rfl)
   (try simp only[Act.put,List.setIfInBounds_toArray,List.set_cons_zero,List.set_cons_succ])
   refine held_step (i:=2) rfl (by kernel_rfl) (fun K1 hK1=>?tp_2)
   go_simp
   refine(c1 _ (F0.out.drew)).out.mono ?_
   rintro e x6 ⟨x1,A1,a1,rfl,hm1,hv1,f6⟩
   have F6:=(Fr.refl [] w2).drew.trans f6
   have HB6:=F0.out.trans F6
   go_simp
   refine hK1.out _ _ (F6) (fun hHeld=>?up_2)
   clear hK1 K1
   (try simp only[Act.put,List.setIfInBounds_toArray,List.set_cons_zero,List.set_cons_succ])
   refine held_step (i:=5) rfl (by kernel_rfl) (fun K1 hK1=>?tp_5)
   go_simp
   refine(c2 _ HB6).out.mono ?_
   rintro e z ⟨x2,A2,a2,rfl,hm2,hv2,f7⟩
   have FZ:=F6.trans f7
   go_simp
   refine hK1.out _ _ (FZ) (fun hHeld=>?up_5)
   clear hK1 K1
   (try simp only[Act.put,List.setIfInBounds_toArray,List.set_cons_zero,List.set_cons_succ])
   have hg0:=FZ.keep g0 (fun x=>by cases x)
   have hg1:=FZ.keep g1 (fun x=>by cases x)
   have kk:=cells2 hg0
   have uu:=cells2 hg1
   have hs6:=lt_of_heap hg1
   refine wpAnyH_done (by kernel_rfl) ?_ _
   refine thenLast_any rfl (fun Q'=>?_)
   go_simp
   refine hK'.out _ _ (fun Q''=>?_)
   clear hK' K'
   (try simp only[Act.put,List.setIfInBounds_toArray,List.set_cons_zero,List.set_cons_succ])
   go_simp
   refine hK.out _ _ ?_
   clear hK K
   have V1:=RowV.fr (show RowV w P x6 x1 A1 a1 _ from hv1) f7
   have V2:=(show RowV w P z x2 A2 a2 _ from hv2)
   have hb1:T+2≤w2.drew.heap.size:=(by show T+2≤w2.heap.size;omega)
   have hb2:T+2≤x6.heap.size:=(by have:=F6.size;omega)
   have FW:=F0.out.trans FZ
   have W1:=Lib.hid (V1.lo hb1)
   have W2:=Lib.hid (V2.lo hb2)
   have M1:=Lib.hid hm1
   have M2:=Lib.hid hm2
   clear hv1 hv2 V1 V2 hm1 hm2
   go_wp2_with fail
   go_meet
   exact⟨x1,x2,A1,a1,A2,a2,Lib.hid (by(simp[World.setCell,World.alloc,World.drew,Array.getElem?_modify,Array.getElem?_push,hg0,hg1,n0,n1])),Lib.hid (by(simp[World.setCell,World.alloc,World.drew,Array.getElem?_modify,Array.getElem?_push,hg0,hg1,n0,n1])),Lib.hid (W1.out.keepL (L:=[T,T+1]) (by(repeat(first|with_reducible refine Fr.setCell ?_ (.inl (by simp;done)) _|with_reducible refine Fr.setCell ?_ (.inr (by first|(simp;done)| (dsimp only;omega)| (simp;omega))) _|with_reducible refine Fr.alloc ?_ _|with_reducible refine Fr.drew ?_|with_reducible exact Fr.refl _ _))) (by simp)),Lib.hid (W2.out.keepL (L:=[T,T+1]) (by(repeat(first|with_reducible refine Fr.setCell ?_ (.inl (by simp;done)) _|with_reducible refine Fr.setCell ?_ (.inr (by first|(simp;done)| (dsimp only;omega)| (simp;omega))) _|with_reducible refine Fr.alloc ?_ _|with_reducible refine Fr.drew ?_|with_reducible exact Fr.refl _ _))) (by simp)),M1,M2,Lib.hid (by(repeat(first|with_reducible refine Fr.setCell ?_ (.inr (by first|simp;done|(simp;omega))) _|with_reducible refine Fr.alloc ?_ _|with_reducible refine Fr.drew ?_|with_reducible exact FW)))⟩
 case rest =>
  obtain⟨x1,x2,A1,a1,A2,a2,HB1,HB2,V1,V2,M1,M2,HFW⟩:=hcut
  clear c1 c2 l0 l1 k0 k1 hs0 hs1 g0 g1
  obtain rfl:=M1.out
  obtain rfl:=M2.out
  clear M1 M2
  have hx1:x1.length≤1073741824:=V1.out.len H.out.sw.few (ri_nodup HL1.out.ok.1)
  have hx2:x2.length≤1073741824:=V2.out.len H.out.sw.few (ri_nodup HL2.out.ok.1)
  obtain⟨ls,hls⟩:∃ ls,ls=labs (x1.map (·.fd))++labs (x2.map (·.fd)):=⟨_,rfl⟩
  have hlen:x1.length+x2.length=ls.length:=by rw[hls,List.length_append,labs,labs,List.length_map,List.length_map,List.length_map,List.length_map]
  have HLS:=Lib.hid hls
  have HLEN:=Lib.hid hlen
  have hlb:ls.length≤2147483648:=by omega
  clear hls hlen
  obtain⟨i0,hi,hz0,hz1,hz2⟩:=info_parts infoFd
  have HI:=Lib.hid hi
  have HZ0:=Lib.hid hz0
  have HZ1:=Lib.hid hz1
  have HZ2:=Lib.hid hz2
  obtain⟨⟨l0,l1⟩,_⟩:=cells2 HB1.out
  obtain⟨⟨k0,k1⟩,_⟩:=cells2 HB2.out
  have hs0:=lt_of_heap HB1.out
  have hs1:=lt_of_heap HB2.out
  have cC:=fun X hX=>Lib.hid (sv_clone (V1.out.fr (W':=X) hX) hx1)
  clear hi hz0 hz1 hz2
  go_wp2_with fail
  go_cut [28,29,30] (fun u v q wx=>∃ (A9:Option Addr) (c9:Nat),u = .slice A9 ls.length c9∧v = .int .i64 ls.length∧q = .int .i64 0∧Hid (wx.heap[T]?=some (.cells #[.slice A1 x1.length a1,.int .i64 e1] 25 (0,0)))∧Hid (wx.heap[T+1]?=some (.cells #[.slice A2 x2.length a2,.int .i64 e2] 25 (0,0)))∧
   Hid (RowV w P wx x1 A1 a1 (T+2))∧Hid (RowV w P wx x2 A2 a2 (T+2))∧Hid (RowV w P wx (x1++x2) A9 c9 (T+2))∧Hid (Fr [] w wx))
  case first =>
     go_region_held3 (fun w'=>w'.cell? ⟨T,0,none⟩=some (.slice A1 x1.length a1)∧w'.cell? ⟨T+1,0,none⟩=some (.slice A2 x2.length a2)) (first|go_keep|exact MM|exact MM9)
   ((first|((with_reducible refine(cC _ ((Fr.refl [] wc).drew)).out.mono ?_);rintro e x6 ⟨A7,a7,rfl,hap,f6⟩;have F6:=(Fr.refl [] wc).drew.trans f6;have J1:=F6.keep HB1.out (fun x=>by cases x);have J2:=F6.keep HB2.out (fun x=>by cases x);have MM:=And.intro (cells2 J1).1.1 (cells2 J2).1.1;have V6:=V2.out.fr F6;have NW:=V6.news;have hob:∀ b,b<wc.heap.size→some b≠(Value.slice A7 x1.length a7).ownBlock:=(fun b hb e=>by have h1:=(hap.lo b e.symm).1;have h2:wc.drew.heap.size=wc.heap.size:=rfl;omega))|
    (refine step_append_any (by rfl) _ _ 23 (by rfl) 44 i0 _ 8 104 Tryz.underlying23 HI.out HZ0.out HZ1.out HZ2.out rfl (by decide) (.slice A7 x1.length a7) x1.length (x1.flatMap encF) (by rfl) hap.own A2 x2.length a2 (x2.flatMap encF) (by rfl) (flat_len x2) NW.1 NW.2 (flat_one x2) (by simp only[maxLen];omega) (by omega) ?_;intro v9 w9 hown9 hgrow9 hfp9;rw[HLEN.out] at hown9;obtain⟨A9,c9,rfl⟩:=own_any hown9;have Q1:=(hgrow9.block T (lt_of_heap J1) (hob _ hs0)).trans J1;have Q2:=(hgrow9.block (T+1) (lt_of_heap J2) (hob _ hs1)).trans J2;have MM9:=And.intro (cells2 Q1).1.1 (cells2 Q2).1.1)))
     all_goals
       have F9:=F6.grown hgrow9 (fun k e => .inr (by have h1:=(hap.lo k e).1;have h2:wc.drew.heap.size=wc.heap.size:=rfl;omega))
       rw[← HLEN.out] at hown9 hfp9
       have hap9:=Lib.hid ((hap.appL V6.ok (by have:=F6.size;exact this) hown9 hgrow9 hfp9).rowV (by have:=HFW.out.size;exact this))
       have HF9:=Lib.hid F9
       have R1:=Lib.hid Q1
       have R2:=Lib.hid Q2
       clear hown9 hfp9 hgrow9 F9 Q1 Q2 MM MM9 J1 J2 NW V6 hap F6 f6 cC
       go_wp2_with fail
       go_meet
       exact⟨A9,c9,rfl,rfl,rfl,R1,R2,Lib.hid (V1.out.fr HF9.out),Lib.hid (V2.out.fr HF9.out),Lib.hid (hap9.out.lo (by show T+2≤wc.heap.size;omega)),Lib.hid (HFW.out.trans HF9.out)⟩
  case rest =>
   obtain⟨A9,c9,rfl,rfl,rfl,HB1,HB2,V1,V2,V9,HFW⟩:=hcut
   clear cC l0 l1 k0 k1 hs0 hs1 HI HZ0 HZ1 HZ2
   have hz:∀ i,i<ls.length→∃ x,(x1++x2)[i]?=some x∧ls[i]?=some x.fd.lb:=fun i hi=>by
    have e1:ls=(x1++x2).map (fun x=>x.fd.lb):=by rw[HLS.out];simp only[labs,List.map_append,List.map_map];rfl
    have h2:i<(x1++x2).length:=by rw[List.length_append,HLEN.out];exact hi
    exact⟨_,List.getElem?_eq_getElem h2,by rw[e1,List.getElem?_map,List.getElem?_eq_getElem h2];rfl⟩
   have HZ:=Lib.hid hz
   clear hz
   obtain⟨i1,hi,hz0,hz1,hz2⟩:=info_parts infoSt
   have HI:=Lib.hid hi
   have HZ0:=Lib.hid hz0
   have HZ1:=Lib.hid hz1
   have HZ2:=Lib.hid hz2
   have HA0:=Lib.hid (AppS.nil wc.heap.size wc)
   clear hi hz0 hz1 hz2
   go_wp2_with fail
   go_loopw [30,7] (fun iv lv wr=>∃ (i:Nat) (A7:Option Addr) (c7:Nat),iv = .int .i64 i∧lv = .slice A7 i c7∧i≤ls.length∧Hid (AppS wc.heap.size wr A7 c7 (ls.take i))∧Hid (Fr [] wc wr)) (fun iv lv wr=>ls.length-(intOf iv).toNat)
   case atStart=>exact⟨0,none,0,rfl,rfl,by omega,HA0,Lib.hid (Fr.refl [] wc)⟩
   case round =>
    obtain⟨i,A7,c7,rfl,rfl,hil,HAS,HF⟩:=hrel
    have q1:(0:Int)≤(i:Int):=by omega
    by_cases hlt:i<ls.length
    ·have q2:(i:Int)<(ls.length:Int):=by omega
     obtain⟨x,hx,hlx⟩:=HZ.out i hlt
     obtain⟨g,rfl,hgb,hgs,_,y0,y1,y2,y3,y4,y5,y6,y7⟩:=(V9.out.fr HF.out).at hx
     have HX:=Lib.hid hlx
     have e1:(ls.take i).length=i:=by rw[List.length_take];omega
     have f8:=((Fr.refl [] wr).alloc (.cells #[.string ⟨x.fd.lb.toArray⟩,.int .i64 x.fd.pr,.int .i64 x.fd.p,.int .i64 x.fd.t.k,.int .i64 x.fd.t.v,.slice x.A x.fd.t.args.length x.c,.slice x.B x.fd.t.fs.length x.d,.int .i64 x.fd.t.rest] 44)).alloc (.cells #[.string ⟨x.fd.lb.toArray⟩] 9)
     have g8:=heap_new (wr.alloc (.cells #[.string ⟨x.fd.lb.toArray⟩,.int .i64 x.fd.pr,.int .i64 x.fd.p,.int .i64 x.fd.t.k,.int .i64 x.fd.t.v,.slice x.A x.fd.t.args.length x.c,.slice x.B x.fd.t.fs.length x.d,.int .i64 x.fd.t.rest] 44)) (.cells #[.string ⟨x.fd.lb.toArray⟩] 9)
     rw[World.size_alloc] at g8
     have how:=(HAS.out.keep f8 (fun x hx=>by cases hx)).own
     rw[e1] at how
     have HOW:=Lib.hid how
     have HNS:=Lib.hid (World.news_of_block g8)
     have HE1:=Lib.hid e1
     have F8:=Lib.hid f8
     clear hx hlx how g8 f8 e1
     go_wp2_with (at_builtin;refine wpList_append_fp _ rfl _ _ 84 rfl 9 i1 _ 1 16 Tryz.underlying84 HI.out HZ0.out HZ1.out HZ2.out rfl (by decide) (.slice A7 i c7) i ((ls.take i).map encStr) rfl HOW.out ⟨wr.heap.size+1,0,none⟩ 1 1 [encStr x.fd.lb] rfl rfl HNS.out (by simp[Value.oneCell']) (by simp only[maxLen];omega) (by omega) ?_;intro v9 w9 hown9 hgrow9 hfp9;obtain⟨A8,c8,rfl⟩:=own_any hown9)
     have R1:Hid (AppS wc.heap.size w9 A8 c8 (ls.take (i+1))):=Lib.hid (by
      rw[List.take_add_one,HX.out]
      exact(HAS.out.keep F8.out (fun x hx=>by cases hx)).app (by have h1:=HF.out.size;have h2:=F8.out.size;omega) (by rw[HE1.out];exact hown9) (by rw[HE1.out];exact hfp9))
     have R2:=Lib.hid ((HF.out.trans F8.out).grown hgrow9 (fun k e => .inr (HAS.out.lo k (by rw[HE1.out];exact e)).1))
     clear hown9 hgrow9 hfp9
     go_roundw
     case rel=>exact⟨i+1,A8,c8,by first|rfl|simp|go_num,rfl,by omega,R1,R2⟩
     case measure=>simp[intOf];omega
    ·have hie:i=ls.length:=by omega
     subst hie
     have q2:¬ (ls.length:Int)<(ls.length:Int):=by omega
     rw[List.take_length] at HAS
     have cS:=Lib.hid (sv_sortS HAS.out hlb)
     have hblk:∀ x ∈ aBlk A7,wc.heap.size≤x:=fun x hx=>by
      cases A7 with
      | none=>cases hx
      | some a=>exact(HAS.out.lo x (by simp[aBlk] at hx;simp[Value.ownBlock,hx])).1
     have HBK:=Lib.hid hblk
     have hb7:∀ a,A7=some a→a.block<wr.heap.size:=fun a e=>(HAS.out.lo a.block (by rw[e];rfl)).2
     have HB7:=Lib.hid hb7
     clear hb7
     clear hblk
     go_wp2_with fail
     refine cS.out.mono ?_
     rintro e w7 ⟨rfl,has7,f7⟩
     have hml:(ls.mergeSort fun x y=>decide (x≤y)).length=ls.length:=List.length_mergeSort ls
     have cC:=sv_compactS has7 (by omega)
     rw[hml,cpt_sort,HLS.out] at cC
     have hzs:cptL (srtL (labs (x1.map (·.fd))++labs (x2.map (·.fd))))=lsOf (x1.map (·.fd)) (x2.map (·.fd)):=rfl
     rw[hzs,← HLS.out] at cC
     have hzl:(lsOf (x1.map (·.fd)) (x2.map (·.fd))).length≤2147483648:=by
      have:=cpt_le ls
      rw[HLS.out,hzs,← HLS.out] at this
      omega
     obtain⟨zs,hze⟩:∃ zs,zs=lsOf (x1.map (·.fd)) (x2.map (·.fd)):=⟨_,rfl⟩
     rw[← hze] at HRM HCA cC hzl
     have F7:=Lib.hid (HF.out.step f7 (fun x hx => .inr (HBK.out x hx)))
     have HF7s:=Lib.hid f7.size
     have HZE:=Lib.hid hze
     have HCC:=Lib.hid cC
     clear cC cS f7 has7 hze hml hzs
     go_wp2_with fail
     refine HCC.out.mono ?_
     rintro e w8 ⟨rfl,hlab,f8⟩
     have fx8:=HFW.out.trans (F7.out.step f8 (fun x hx => .inr (HBK.out x hx)))
     have fc8:=F7.out.step f8 (fun x hx => .inr (HBK.out x hx))
     obtain⟨bL,hbL⟩:∃ b,b=wc.heap.size:=⟨_,rfl⟩
     obtain⟨bO,hbO⟩:∃ b,b=w8.heap.size:=⟨_,rfl⟩
     rw[← hbL] at hlab
     have b18:=fc8.keep HB1.out (fun x=>by cases x)
     have b28:=fc8.keep HB2.out (fun x=>by cases x)
     have v18:=V1.out.fr fc8
     have v28:=V2.out.fr fc8
     have HU0:Hid (@UmM _ E (⟨w,P,T,T+1,A1,a1,x1,e1,A2,a2,x2,e2,A7,zs,T+2,bL,bO,solL Q M0 M1 M2⟩:UmD) none 0 [] none 0 [] [] 0 w8):=Lib.hid ⟨b18,b28,v18,v28,hlab,AppR.nil _ _ _ _,AppR.nil _ _ _ _,fun g e=>(by cases e),fun g e=>(by cases e),fun g e=>(by cases e),fun x hx=>(by cases hx),fun a ha=>(by
      show a.block<bO
      rw[hbO]
      rcases ha with c|c|c
      ·exact v18.blt a c
      ·exact v28.blt a c
      ·exact Nat.lt_of_lt_of_le (HB7.out a c) (by have h1:=(Lib.hid f8).out.size;have h2:=HF7s.out;omega)),by rw[List.take_zero];rfl,by rw[List.take_zero];rfl,fx8.mono (fun x hx=>by cases hx),⟨by show w.heap.size≤bO;rw[hbO];exact fx8.size,by show T<bO;rw[hbO];exact lt_of_heap b18,by show T+1<bO;rw[hbO];exact lt_of_heap b28,by show bO≤w8.heap.size;omega⟩⟩
     have HS0:Hid (∃ (G':Ctx) (N0 N1 N2:Option Nat) (R':Raw) (A':Ab) (m':Nat),m'≤n∧@SolU _ (exP E []) w8 P Q N0 N1 N2 G' R' A'∧Adv G A G' A'∧(∀ x ∈ solL Q N0 N1 N2,x ∈ solL Q M0 M1 M2∨w.heap.size≤x)∧A'.most+cnt A'≤A.most+cnt A∧uniM m' A' (apFs A.s (x1.map (·.fd)),e1) (apFs A.s (x2.map (·.fd)),e2) (zs.drop 0)=some rm):=Lib.hid ⟨G,M0,M1,M2,R,A,n,Nat.le_refl _,solU_nil (H.out.fr fx8),.refl H.out.ok,fun x hx => .inl hx,Int.le_refl _,HRM.out⟩
     have HNO:Hid (∀ x ∈ solL Q M0 M1 M2,¬ okW w x∧x<w.heap.size):=Lib.hid H.out.sw.at_.not_ok
     clear f8 hlab HCC F7 HF7s HB7 HBK fx8 fc8 hbL hbO b18 b28 v18 v28 HF HAS HA0 HI HZ0 HZ1 HZ2 HZ hlt hil q1 q2
     clear V9 V1 V2 HB1 HB2 HFW HLS HLEN F0
     go_wp2_with fail
     go_loopw [45,10,11] (fun iv v1 v2 wr=>∃ (i:Nat) (O1:Option Addr) (s1:Nat) (o1:List FdM) (O2:Option Addr) (s2:Nat) (o2:List FdM) (L:List Nat),iv = .int .i64 i∧v1 = .slice O1 o1.length s1∧v2 = .slice O2 o2.length s2∧i≤zs.length∧Hid (@UmM _ E (⟨w,P,T,T+1,A1,a1,x1,e1,A2,a2,x2,e2,A7,zs,T+2,bL,bO,solL Q M0 M1 M2⟩:UmD) O1 s1 o1 O2 s2 o2 L i wr)∧Hid (∃ (G':Ctx) (N0 N1 N2:Option Nat) (R':Raw) (A':Ab) (m':Nat),m'≤n∧@SolU _ (exP E L) wr P Q N0 N1 N2 G' R' A'∧Adv G A G' A'∧(∀ x ∈ solL Q N0 N1 N2,x ∈ solL Q M0 M1 M2∨w.heap.size≤x)∧A'.most+cnt A'≤A.most+cnt A∧uniM m' A' (apFs A.s (x1.map (·.fd)),e1) (apFs A.s (x2.map (·.fd)),e2) (zs.drop i)=some rm)) (fun iv v1 v2 wr=>zs.length-(intOf iv).toNat)
     case atStart=>exact⟨0,none,0,[],none,0,[],[],rfl,rfl,rfl,by omega,HU0,HS0⟩
     case round =>
      obtain⟨i,O1,s1,o1,O2,s2,o2,L,rfl,rfl,rfl,hiz,HU,HS⟩:=hrel
      clear HU0 HS0
      have q1:(0:Int)≤(i:Int):=by omega
      by_cases hlt:i<zs.length
      ·have q2:(i:Int)<(zs.length:Int):=by omega
       have hx:zs[i]?=some zs[i]:=List.getElem?_eq_getElem hlt
       have hdr:zs.drop i=zs[i]::zs.drop (i+1):=List.drop_eq_getElem_cons hlt
       obtain⟨G',N0,N1,N2,R',A',m',hmn,hSU,hAD,hNW,hCN,hUM⟩:=HS.out
       rw[hdr] at hUM
       generalize zs[i]=x at hx hUM
       clear hdr
       obtain⟨kk,hmk,r1,hr1,hnx⟩:=uniM_cons hUM
       have h3:=uniX_three hAD H.out.ok (show kk≤n by omega) (by rw[← HZE.out];exact List.mem_of_getElem? hx) hr1
       obtain⟨I1,hI1⟩:∃ I,I=fIx (fun y=>y.fd.lb==x) x1 0:=⟨_,rfl⟩
       obtain⟨I2,hI2⟩:∃ I,I=fIx (fun y=>y.fd.lb==x) x2 0:=⟨_,rfl⟩
       have cA1:∀ X,Fr [] wr X→Hid (Calls Tryz.prog 66 #[.slice A1 x1.length a1,.string ⟨x.toArray⟩] X fun e w'=>e = .returned (.int .i64 I1)∧Fr [] X w'):=fun X hX=>Lib.hid (by rw[hI1];exact sv_at (show RowV w P X x1 A1 a1 _ from HU.out.v1.fr hX) (show x1.length≤1099511627776 by omega) x)
       have cA2:∀ X,Fr [] wr X→Hid (Calls Tryz.prog 66 #[.slice A2 x2.length a2,.string ⟨x.toArray⟩] X fun e w'=>e = .returned (.int .i64 I2)∧Fr [] X w'):=fun X hX=>Lib.hid (by rw[hI2];exact sv_at (show RowV w P X x2 A2 a2 _ from HU.out.v2.fr hX) (show x2.length≤1099511627776 by omega) x)
       rw[← hI1,← hI2] at h3
       have H3:=Lib.hid h3
       obtain⟨g7,hg7,y0⟩:=HU.out.lb.cell hx
       have hg7':A7=some ⟨g7,0,none⟩:=hg7
       subst hg7'
       have hb1:wr.heap[T]?=some (.cells #[.slice A1 x1.length a1,.int .i64 e1] 25 (0,0)):=HU.out.b1
       have hb2:wr.heap[T+1]?=some (.cells #[.slice A2 x2.length a2,.int .i64 e2] 25 (0,0)):=HU.out.b2
       obtain⟨⟨l0,l1⟩,_⟩:=cells2 hb1
       obtain⟨⟨k0,k1⟩,_⟩:=cells2 hb2
       have hs0:=lt_of_heap hb1
       have hs1:=lt_of_heap hb2
       have HSU:=Lib.hid hSU
       have HAD:=Lib.hid hAD
       have HNW:=Lib.hid hNW
       have HCN:=Lib.hid hCN
       have HNX:=Lib.hid hnx
       have HMK:=Lib.hid hmk
       have HXX:=Lib.hid hx
       have hmn':kk≤n:=by omega
       clear hx hUM hr1 hnx h3 hI1 hI2 hSU hAD hNW hCN hmk hmn HS hg7
       have HB1:=Lib.hid hb1
       have HB2:=Lib.hid hb2
       clear hb1 hb2
       go_wp2_with fail
       go_cut [14,15] (fun u v wx=>u = .int .i64 I1∧v = .int .i64 I2∧Hid (Fr [] wr wx))
       case first =>
               go_region_held3 (fun w'=>w'.cell? ⟨T,0,none⟩=some (.slice A1 x1.length a1)∧w'.cell? ⟨T+1,0,none⟩=some (.slice A2 x2.length a2)) (first|go_keep|exact MM|exact NN)
        ((first|((with_reducible refine(cA1 _ ((Fr.refl [] wr).drew)).out.mono ?_);rintro e x6 ⟨rfl,f6⟩;have F6:=(Fr.refl [] wr).drew.trans f6;have MM:=And.intro (cells2 (F6.keep HB1.out (fun x=>by cases x))).1.1 (cells2 (F6.keep HB2.out (fun x=>by cases x))).1.1)| ((with_reducible refine(cA2 _ ((Fr.refl [] wr).drew)).out.mono ?_);rintro e x7 ⟨rfl,f7⟩;have F7:=(Fr.refl [] wr).drew.trans f7;have MM:=And.intro (cells2 (F7.keep HB1.out (fun x=>by cases x))).1.1 (cells2 (F7.keep HB2.out (fun x=>by cases x))).1.1)|
         ((with_reducible refine(cA2 _ F6).out.mono ?_);rintro e z ⟨rfl,f7⟩;have FZ:=F6.trans f7;have NN:=And.intro (cells2 (FZ.keep HB1.out (fun x=>by cases x))).1.1 (cells2 (FZ.keep HB2.out (fun x=>by cases x))).1.1)| ((with_reducible refine(cA1 _ F7).out.mono ?_);rintro e z ⟨rfl,f6⟩;have FZ:=F7.trans f6;have NN:=And.intro (cells2 (FZ.keep HB1.out (fun x=>by cases x))).1.1 (cells2 (FZ.keep HB2.out (fun x=>by cases x))).1.1)))
               all_goals
                 have FZZ:=Lib.hid FZ
                 clear MM NN
                 go_wp2_with fail
                 go_meet
                 exact⟨rfl,rfl,FZZ⟩
       case rest =>
        obtain⟨rfl,rfl,HFC⟩:=hcut
        clear cA1 cA2 l0 l1 k0 k1 hs0 hs1 y0 HB1 HB2
        have HU9:=HU.out.keep0 HFC.out
        have hb1:wc.heap[T]?=some (.cells #[.slice A1 x1.length a1,.int .i64 e1] 25 (0,0)):=HU9.b1
        have hb2:wc.heap[T+1]?=some (.cells #[.slice A2 x2.length a2,.int .i64 e2] 25 (0,0)):=HU9.b2
        obtain⟨⟨l0,l1⟩,_⟩:=cells2 hb1
        obtain⟨⟨k0,k1⟩,_⟩:=cells2 hb2
        have hs0:=lt_of_heap hb1
        have hs1:=lt_of_heap hb2
        clear hb1 hb2
        have HUC:=Lib.hid HU9
        have HSC:=Lib.hid (solU_fr HSU.out HFC.out)
        clear HU9 HU HSU
        rcases H3.out with⟨j1,z1,j2,z2,i1,hz1,i2,hz2,hfa,ho1,ho2⟩| ⟨j1,z1,i1,hz1,i2,hr1,ho1,ho2⟩| ⟨j2,z2,i1,i2,hz2,hr1,ho1,ho2⟩
        ·
         subst i1
         subst i2
         have q3:(0:Int)≤(j1:Int):=by omega
         have q4:(0:Int)≤(j2:Int):=by omega
         have hj1:j1<x1.length:=(List.getElem?_eq_some_iff.1 hz1).1
         have hj2:j2<x2.length:=(List.getElem?_eq_some_iff.1 hz2).1
         have q5:(j1:Int)<(x1.length:Int):=by omega
         have q6:(j2:Int)<(x2.length:Int):=by omega
         have hd:=(Fr.refl [] wc).drew
         have hUd:=HUC.out.keep0 hd
         have hsx:=UmM.shx (L:=L) hUd (fun x hx=>(HNO.out x hx).1)
         obtain⟨g,hg,_,hgl,hok1,x0,x1',x2',x3,x4,x5,x6,x7⟩:=HUC.out.v1.at hz1
         obtain⟨g',hg',_,hgl',hok2,y0,y1,y2,y3,y4,y5,y6,y7⟩:=HUC.out.v2.at hz2
         have hgA:A1=some ⟨g,0,none⟩:=hg
         have hgB:A2=some ⟨g',0,none⟩:=hg'
         subst hgA
         subst hgB
         have wf1:WfF G' z1.fd:=(wfFs_iff G' _).1 (wfFs_le HAD.out.le HL1.out.wf) z1.fd (List.mem_map_of_mem (List.mem_of_getElem? hz1))
         have wf2:WfF G' z2.fd:=(wfFs_iff G' _).1 (wfFs_le HAD.out.le HL2.out.wf) z2.fd (List.mem_map_of_mem (List.mem_of_getElem? hz2))
         have cF:=Lib.hid (@sv_fields _ (exP E L) n (IHU.out _) wc.drew P Q N0 N1 N2 G' R' A' (solU_fr HSC.out hd) (by have h1:=HM.out;have h2:=HCN.out;omega) z1.fd z2.fd wf1 wf2 r1 hfa _ _ _ _ _ _ _ _ (hok1.2.keep hsx) (hok2.2.keep hsx))
         have HUD:=Lib.hid hUd
         have HZ1:=Lib.hid hz1
         have HZ2:=Lib.hid hz2
         have HO1:=Lib.hid ho1
         have HO2:=Lib.hid ho2
         clear hd hUd hsx hok1 hok2 wf1 wf2 hfa ho1 ho2 hg hg' hz1 hz2
         go_wp2_with fail
         first|go_region_held3 (fun w'=>(w'.cell? ⟨T,0,none⟩=some (.slice (some ⟨g,0,none⟩) x1.length a1)∧w'.cell? ⟨T+1,0,none⟩=some (.slice (some ⟨g',0,none⟩) x2.length a2))∧(w'.cell? ⟨g,j1 * 8,none⟩=some (.string ⟨z1.fd.lb.toArray⟩)∧w'.cell? ⟨g,j1 * 8+1,none⟩=some (.int .i64 z1.fd.pr)∧w'.cell? ⟨g,j1 * 8+2,none⟩=some (.int .i64 z1.fd.p)∧w'.cell? ⟨g,j1 * 8+3,none⟩=some (.int .i64 z1.fd.t.k)∧w'.cell? ⟨g,j1 * 8+4,none⟩=some (.int .i64 z1.fd.t.v)∧w'.cell? ⟨g,j1 * 8+5,none⟩=some (.slice z1.A z1.fd.t.args.length z1.c)∧w'.cell? ⟨g,j1 * 8+6,none⟩=some (.slice z1.B z1.fd.t.fs.length z1.d)∧w'.cell? ⟨g,j1 * 8+7,none⟩=some (.int .i64 z1.fd.t.rest))∧(w'.cell? ⟨g',j2 * 8,none⟩=some (.string ⟨z2.fd.lb.toArray⟩)∧w'.cell? ⟨g',j2 * 8+1,none⟩=some (.int .i64 z2.fd.pr)∧w'.cell? ⟨g',j2 * 8+2,none⟩=some (.int .i64 z2.fd.p)∧w'.cell? ⟨g',j2 * 8+3,none⟩=some (.int .i64 z2.fd.t.k)∧w'.cell? ⟨g',j2 * 8+4,none⟩=some (.int .i64 z2.fd.t.v)∧w'.cell? ⟨g',j2 * 8+5,none⟩=some (.slice z2.A z2.fd.t.args.length z2.c)∧w'.cell? ⟨g',j2 * 8+6,none⟩=some (.slice z2.B z2.fd.t.fs.length z2.d)∧w'.cell? ⟨g',j2 * 8+7,none⟩=some (.int .i64 z2.fd.t.rest))) (first|go_keep|exact MM)
          ((first|((with_reducible refine cF.out.mono ?_);rintro e3 w6 ⟨rfl,hf6,hu6⟩;have HU6:=HUD.out.keepS hf6 (solU_apart (solU_fr HSC.out ((Fr.refl [] wc).drew))) HNW.out;obtain⟨_,ea,_,_,_,u0,u1,u2,u3,u4,u5,u6,u7⟩:=HU6.v1.at HZ1.out;obtain⟨_,eb,_,_,_,v0,v1,v2,v3,v4,v5,v6,v7⟩:=HU6.v2.at HZ2.out;cases ea;cases eb;have MM:=And.intro (And.intro (cells2 HU6.b1).1.1 (cells2 HU6.b2).1.1) (And.intro (And.intro u0 (And.intro u1 (And.intro u2 (And.intro u3 (And.intro u4 (And.intro u5 (And.intro u6 u7))))))) (And.intro v0 (And.intro v1 (And.intro v2 (And.intro v3 (And.intro v4 (And.intro v5 (And.intro v6 v7)))))))))))| fail
         all_goals
          have HU7:=Lib.hid (HU6.skip HXX.out HO1.out HO2.out)
          have HF6:=Lib.hid hf6
          have HU6':=Lib.hid hu6
          clear MM hf6 hu6 cF HU6 u0 u1 u2 u3 u4 u5 u6 u7 v0 v1 v2 v3 v4 v5 v6 v7 x0 x1' x2' x3 x4 x5 x6 x7 y0 y1 y2 y3 y4 y5 y6 y7 l0 l1 k0 k1 hgl hgl'
          by_cases he:r1.1=0
          ·have c5:(r1.1==0)=true:=by simp[he]
           have c6:(r1.1 != 0)=false:=by simp[he]
           obtain⟨G2,Y0,Y1,Y2,R2,hU2,hA2,hn2,hm2⟩:=HU6'.out he
           have hnx:uniM kk r1.2 (apFs A.s (x1.map (·.fd)),e1) (apFs A.s (x2.map (·.fd)),e2) (zs.drop (i+1))=some rm:=by
            rcases HNX.out with⟨c,_⟩| ⟨_,c⟩
            ·exact absurd he c
            ·exact c
           have HS2:Hid (∃ (G':Ctx) (N0 N1 N2:Option Nat) (R':Raw) (A':Ab) (m':Nat),m'≤n∧@SolU _ (exP E L) w6 P Q N0 N1 N2 G' R' A'∧Adv G A G' A'∧(∀ x ∈ solL Q N0 N1 N2,x ∈ solL Q M0 M1 M2∨w.heap.size≤x)∧A'.most+cnt A'≤A.most+cnt A∧uniM m' A' (apFs A.s (x1.map (·.fd)),e1) (apFs A.s (x2.map (·.fd)),e2) (zs.drop (i+1))=some rm):=Lib.hid
            ⟨G2,Y0,Y1,Y2,R2,r1.2,kk,hmn',hU2,HAD.out.trans hA2,fun x hx=>by
             rcases hn2 x hx with c|c
             ·exact HNW.out x c
             ·have h1:=HUC.out.fr.size
              have h2:wc.drew.heap.size=wc.heap.size:=rfl
              exact .inr (Nat.le_trans h1 (by omega)),Int.le_trans hm2 HCN.out,hnx⟩
           clear hU2 hA2 hn2 hm2 hnx he
           go_wp2_with fail
           go_roundw
           case rel=>exact⟨i+1,O1,s1,o1,O2,s2,o2,L,by first|rfl|simp|go_num,rfl,rfl,by omega,HU7,HS2⟩
           case measure=>simp[intOf];omega
          ·have c5:(r1.1==0)=false:=beq_eq_false_iff_ne.2 he
           have c6:(r1.1 != 0)=true:=by simp[he]
           have hrr:r=r1:=by
            have e1:rm=r1:=by
             rcases HNX.out with⟨_,c⟩| ⟨c,_⟩
             ·exact c
             ·exact absurd c he
            rcases HCA.out with⟨_,c⟩| ⟨c,_⟩
            ·rw[c,e1]
            ·rw[e1] at c;exact absurd c he
           have HE:=Lib.hid hrr
           have HE2:=Lib.hid he
           clear hrr he
           go_wp2_with fail
           go_ret
           rw[HE.out]
           exact⟨rfl,HU7.out.fr,fun c=>absurd c HE2.out⟩
        ·
         subst i1
         subst i2
         have q3:(0:Int)≤(j1:Int):=by omega
         have q4:¬ (0:Int)≤-1:=by omega
         have hj1:j1<x1.length:=(List.getElem?_eq_some_iff.1 hz1).1
         have q5:(j1:Int)<(x1.length:Int):=by omega
         obtain⟨i0,hi,hz0',hz1',hz2'⟩:=info_parts infoFd
         have HI:=Lib.hid hi
         have HZ0:=Lib.hid hz0'
         have HZ1:=Lib.hid hz1'
         have HZ2:=Lib.hid hz2'
         obtain⟨g,hg,_,hgl,hok1,y0,y1,y2,y3,y4,y5,y6,y7⟩:=HUC.out.v1.at hz1
         have hgA:A1=some ⟨g,0,none⟩:=hg
         subst hgA
         have wf1:WfF G' z1.fd:=(wfFs_iff G' _).1 (wfFs_le HAD.out.le HL1.out.wf) z1.fd (List.mem_map_of_mem (List.mem_of_getElem? hz1))
         have f8:=(Fr.refl [] wc).alloc (.cells #[.string ⟨z1.fd.lb.toArray⟩,.int .i64 z1.fd.pr,.int .i64 z1.fd.p,.int .i64 z1.fd.t.k,.int .i64 z1.fd.t.v,.slice z1.A z1.fd.t.args.length z1.c,.slice z1.B z1.fd.t.fs.length z1.d,.int .i64 z1.fd.t.rest] 44)
         have HOW:=Lib.hid (ownsRow_fr HUC.out.p1.own f8 (fun _ _ x=>by cases x))
         have HNS:=Lib.hid (World.news_of_block (heap_new wc (.cells #[.string ⟨z1.fd.lb.toArray⟩,.int .i64 z1.fd.pr,.int .i64 z1.fd.p,.int .i64 z1.fd.t.k,.int .i64 z1.fd.t.v,.slice z1.A z1.fd.t.args.length z1.c,.slice z1.B z1.fd.t.fs.length z1.d,.int .i64 z1.fd.t.rest] 44)))
         have hol:o1.length≤2147483648:=by
          have h1:=congrArg List.length HUC.out.q1
          have h2:=(onlyL_sub (x1.map (·.fd)) (x2.map (·.fd)) (zs.take i)).length_le
          rw[List.length_map] at h1
          rw[labs,List.length_map,List.length_take] at h2
          have h3:o1.length=(onlyL (x1.map (·.fd)) (x2.map (·.fd)) (zs.take i)).length:=h1
          omega
         have F8:=Lib.hid f8
         have HOK:=Lib.hid hok1
         have HZZ:=Lib.hid hz1
         have HO1:=Lib.hid ho1
         have HO2:=Lib.hid ho2
         have HWF:=Lib.hid wf1
         clear hi hz0' hz1' hz2' f8 hok1 hz1 ho1 ho2 wf1 hg
         by_cases hez:e2=0
         ·have c8:(e2==0)=true:=by simp[hez]
          rw[if_pos hez] at hr1
          have HR1:=Lib.hid hr1
          clear hr1 hez
          go_wp2_with (at_builtin;refine wpList_append_fp _ rfl _ _ 23 rfl 44 i0 _ 8 104 Tryz.underlying23 HI.out HZ0.out HZ1.out HZ2.out rfl (by decide) (.slice O1 o1.length s1) o1.length (o1.flatMap encF) rfl HOW.out ⟨wc.heap.size,0,none⟩ 1 1 (encF z1) rfl rfl HNS.out (encF_one z1) (by simp only[maxLen];omega) (by omega) ?_;intro v9 w9 hown9 hgrow9 hfp9;obtain⟨O9,s9,rfl⟩:=own_any hown9;obtain⟨hU9,hL9,K9,hf9,hK9,hc9⟩:=HUC.out.app1 HXX.out HOK.out HO1.out HO2.out F8.out hown9 hgrow9 hfp9;clear hown9 hgrow9 hfp9 l0 l1 k0 k1 y0 y1 y2 y3 y4 y5 y6 y7 hgl hs0 hs1;obtain⟨⟨l0,l1⟩,_⟩:=cells2 hU9.b1;obtain⟨⟨k0,k1⟩,_⟩:=cells2 hU9.b2;have hs0:=lt_of_heap hU9.b1;have hs1:=lt_of_heap hU9.b2;obtain⟨_,ea,_,hgl,_,y0,y1,y2,y3,y4,y5,y6,y7⟩:=hU9.v1.at HZZ.out;cases ea;have HU9:=Lib.hid hU9;have HL9:=Lib.hid hL9;have HF9:=Lib.hid hf9;have HK9:=Lib.hid hK9;have HC9:=Lib.hid hc9;clear hU9 hL9 hf9 hK9 hc9)
          have HS9:=Lib.hid (solU_exP HSC.out HF9.out (fun x hx hk=>by obtain⟨cs,h1⟩:=HC9.out x hk;exact solU_apart HSC.out x _ _ _ h1 (by decide) hx) HK9.out HL9.out (fun x hx=>(HU9.out.lo x hx).2))
          have cB:=Lib.hid (@sv_absent _ (exP E (L++aBlk O9)) w9 P Q N0 N1 N2 G' R' A' HS9.out z1.fd HWF.out _ _ _ _ (HOK.out.2.keep (UmM.shx (L:=L++aBlk O9) HU9.out (fun x hx=>(HNO.out x hx).1))))
          rw[← HR1.out] at cB
          refine cB.out.mono ?_
          rintro e3 w6 ⟨rfl,hf6,hu6⟩
          have HU7:=Lib.hid (HU9.out.keepS hf6 (solU_apart HS9.out) HNW.out)
          have HF6:=Lib.hid hf6
          have HU6':=Lib.hid hu6
          clear hf6 hu6 cB l0 l1 k0 k1 hs0 hs1 y0 y1 y2 y3 y4 y5 y6 y7 hgl
          by_cases he:r1.1=0
          ·have c5:(r1.1==0)=true:=by simp[he]
           have c6:(r1.1 != 0)=false:=by simp[he]
           obtain⟨G2,Y0,Y1,Y2,R2,hU2,hA2,hn2,hm2⟩:=HU6'.out he
           have hnx:uniM kk r1.2 (apFs A.s (x1.map (·.fd)),e1) (apFs A.s (x2.map (·.fd)),e2) (zs.drop (i+1))=some rm:=by
            rcases HNX.out with⟨c,_⟩| ⟨_,c⟩
            ·exact absurd he c
            ·exact c
           have HS2:Hid (∃ (G':Ctx) (N0 N1 N2:Option Nat) (R':Raw) (A':Ab) (m':Nat),m'≤n∧@SolU _ (exP E (L++aBlk O9)) w6 P Q N0 N1 N2 G' R' A'∧Adv G A G' A'∧(∀ x ∈ solL Q N0 N1 N2,x ∈ solL Q M0 M1 M2∨w.heap.size≤x)∧A'.most+cnt A'≤A.most+cnt A∧uniM m' A' (apFs A.s (x1.map (·.fd)),e1) (apFs A.s (x2.map (·.fd)),e2) (zs.drop (i+1))=some rm):=Lib.hid
            ⟨G2,Y0,Y1,Y2,R2,r1.2,kk,hmn',hU2,HAD.out.trans hA2,fun x hx=>by
             rcases hn2 x hx with c|c
             ·exact HNW.out x c
             ·have h1:=HU9.out.fr.size
              exact .inr (Nat.le_trans h1 c),Int.le_trans hm2 HCN.out,hnx⟩
           clear hU2 hA2 hn2 hm2 hnx he
           go_wp2_with fail
           go_roundw
           case rel=>exact⟨i+1,O9,s9,(o1++[z1]),O2,s2,o2,L++aBlk O9,by first|rfl|simp|go_num,by simp,by simp,by omega,HU7,HS2⟩
           case measure=>simp[intOf];omega
          ·have c5:(r1.1==0)=false:=beq_eq_false_iff_ne.2 he
           have c6:(r1.1 != 0)=true:=by simp[he]
           have hrr:r=r1:=by
            have e1:rm=r1:=by
             rcases HNX.out with⟨_,c⟩| ⟨c,_⟩
             ·exact c
             ·exact absurd c he
            rcases HCA.out with⟨_,c⟩| ⟨c,_⟩
            ·rw[c,e1]
            ·rw[e1] at c;exact absurd c he
           have HE:=Lib.hid hrr
           have HE2:=Lib.hid he
           clear hrr he
           go_wp2_with fail
           go_ret
           rw[HE.out]
           exact⟨rfl,HU7.out.fr,fun c=>absurd c HE2.out⟩
         ·have c8:(e2==0)=false:=beq_eq_false_iff_ne.2 hez
          rw[if_neg hez] at hr1
          have HR1:=Lib.hid hr1
          clear hr1 hez
          go_wp2_with (at_builtin;refine wpList_append_fp _ rfl _ _ 23 rfl 44 i0 _ 8 104 Tryz.underlying23 HI.out HZ0.out HZ1.out HZ2.out rfl (by decide) (.slice O1 o1.length s1) o1.length (o1.flatMap encF) rfl HOW.out ⟨wc.heap.size,0,none⟩ 1 1 (encF z1) rfl rfl HNS.out (encF_one z1) (by simp only[maxLen];omega) (by omega) ?_;intro v9 w9 hown9 hgrow9 hfp9;obtain⟨O9,s9,rfl⟩:=own_any hown9;obtain⟨hU9,hL9,K9,hf9,hK9,hc9⟩:=HUC.out.app1 HXX.out HOK.out HO1.out HO2.out F8.out hown9 hgrow9 hfp9;clear hown9 hgrow9 hfp9 l0 l1 k0 k1 y0 y1 y2 y3 y4 y5 y6 y7 hgl hs0 hs1;obtain⟨⟨l0,l1⟩,_⟩:=cells2 hU9.b1;obtain⟨⟨k0,k1⟩,_⟩:=cells2 hU9.b2;have hs0:=lt_of_heap hU9.b1;have hs1:=lt_of_heap hU9.b2;have HU9:=Lib.hid hU9;have HL9:=Lib.hid hL9;have HF9:=Lib.hid hf9;have HK9:=Lib.hid hK9;have HC9:=Lib.hid hc9;clear hU9 hL9 hf9 hK9 hc9)
          have HS9:=Lib.hid (solU_exP HSC.out HF9.out (fun x hx hk=>by obtain⟨cs,h1⟩:=HC9.out x hk;exact solU_apart HSC.out x _ _ _ h1 (by decide) hx) HK9.out HL9.out (fun x hx=>(HU9.out.lo x hx).2))
          have hnx:uniM kk A' (apFs A.s (x1.map (·.fd)),e1) (apFs A.s (x2.map (·.fd)),e2) (zs.drop (i+1))=some rm:=by
           rcases HNX.out with⟨c,_⟩| ⟨_,c⟩
           ·rw[HR1.out] at c;exact absurd rfl c
           ·rw[HR1.out] at c;exact c
          have HS2:Hid (∃ (G':Ctx) (N0 N1 N2:Option Nat) (R':Raw) (A':Ab) (m':Nat),m'≤n∧@SolU _ (exP E (L++aBlk O9)) w9 P Q N0 N1 N2 G' R' A'∧Adv G A G' A'∧(∀ x ∈ solL Q N0 N1 N2,x ∈ solL Q M0 M1 M2∨w.heap.size≤x)∧A'.most+cnt A'≤A.most+cnt A∧uniM m' A' (apFs A.s (x1.map (·.fd)),e1) (apFs A.s (x2.map (·.fd)),e2) (zs.drop (i+1))=some rm):=Lib.hid ⟨G',N0,N1,N2,R',A',kk,hmn',HS9.out,HAD.out,HNW.out,HCN.out,hnx⟩
          clear hnx l0 l1 k0 k1 hs0 hs1
          go_roundw
          case rel=>exact⟨i+1,O9,s9,(o1++[z1]),O2,s2,o2,(L++aBlk O9),by first|rfl|simp|go_num,by simp,by simp,by omega,HU9,HS2⟩
          case measure=>simp[intOf];omega
        ·
         subst i1
         subst i2
         have q3:(0:Int)≤(j2:Int):=by omega
         have q4:¬ (0:Int)≤-1:=by omega
         have hj1:j2<x2.length:=(List.getElem?_eq_some_iff.1 hz2).1
         have q5:(j2:Int)<(x2.length:Int):=by omega
         obtain⟨i0,hi,hz0',hz1',hz2'⟩:=info_parts infoFd
         have HI:=Lib.hid hi
         have HZ0:=Lib.hid hz0'
         have HZ1:=Lib.hid hz1'
         have HZ2:=Lib.hid hz2'
         obtain⟨g,hg,_,hgl,hok1,y0,y1,y2,y3,y4,y5,y6,y7⟩:=HUC.out.v2.at hz2
         have hgA:A2=some ⟨g,0,none⟩:=hg
         subst hgA
         have wf1:WfF G' z2.fd:=(wfFs_iff G' _).1 (wfFs_le HAD.out.le HL2.out.wf) z2.fd (List.mem_map_of_mem (List.mem_of_getElem? hz2))
         have f8:=(Fr.refl [] wc).alloc (.cells #[.string ⟨z2.fd.lb.toArray⟩,.int .i64 z2.fd.pr,.int .i64 z2.fd.p,.int .i64 z2.fd.t.k,.int .i64 z2.fd.t.v,.slice z2.A z2.fd.t.args.length z2.c,.slice z2.B z2.fd.t.fs.length z2.d,.int .i64 z2.fd.t.rest] 44)
         have HOW:=Lib.hid (ownsRow_fr HUC.out.p2.own f8 (fun _ _ x=>by cases x))
         have HNS:=Lib.hid (World.news_of_block (heap_new wc (.cells #[.string ⟨z2.fd.lb.toArray⟩,.int .i64 z2.fd.pr,.int .i64 z2.fd.p,.int .i64 z2.fd.t.k,.int .i64 z2.fd.t.v,.slice z2.A z2.fd.t.args.length z2.c,.slice z2.B z2.fd.t.fs.length z2.d,.int .i64 z2.fd.t.rest] 44)))
         have hol:o2.length≤2147483648:=by
          have h1:=congrArg List.length HUC.out.q2
          have h2:=(onlyL_sub (x2.map (·.fd)) (x1.map (·.fd)) (zs.take i)).length_le
          rw[List.length_map] at h1
          rw[labs,List.length_map,List.length_take] at h2
          have h3:o2.length=(onlyL (x2.map (·.fd)) (x1.map (·.fd)) (zs.take i)).length:=h1
          omega
         have F8:=Lib.hid f8
         have HOK:=Lib.hid hok1
         have HZZ:=Lib.hid hz2
         have HO1:=Lib.hid ho1
         have HO2:=Lib.hid ho2
         have HWF:=Lib.hid wf1
         clear hi hz0' hz1' hz2' f8 hok1 hz2 ho1 ho2 wf1 hg
         by_cases hez:e1=0
         ·have c8:(e1==0)=true:=by simp[hez]
          rw[if_pos hez] at hr1
          have HR1:=Lib.hid hr1
          clear hr1 hez
          go_wp2_with (at_builtin;refine wpList_append_fp _ rfl _ _ 23 rfl 44 i0 _ 8 104 Tryz.underlying23 HI.out HZ0.out HZ1.out HZ2.out rfl (by decide) (.slice O2 o2.length s2) o2.length (o2.flatMap encF) rfl HOW.out ⟨wc.heap.size,0,none⟩ 1 1 (encF z2) rfl rfl HNS.out (encF_one z2) (by simp only[maxLen];omega) (by omega) ?_;intro v9 w9 hown9 hgrow9 hfp9;obtain⟨O9,s9,rfl⟩:=own_any hown9;obtain⟨hU9,hL9,K9,hf9,hK9,hc9⟩:=HUC.out.app2 HXX.out HOK.out HO1.out HO2.out F8.out hown9 hgrow9 hfp9;clear hown9 hgrow9 hfp9 l0 l1 k0 k1 y0 y1 y2 y3 y4 y5 y6 y7 hgl hs0 hs1;obtain⟨⟨l0,l1⟩,_⟩:=cells2 hU9.b1;obtain⟨⟨k0,k1⟩,_⟩:=cells2 hU9.b2;have hs0:=lt_of_heap hU9.b1;have hs1:=lt_of_heap hU9.b2;obtain⟨_,ea,_,hgl,_,y0,y1,y2,y3,y4,y5,y6,y7⟩:=hU9.v2.at HZZ.out;cases ea;have HU9:=Lib.hid hU9;have HL9:=Lib.hid hL9;have HF9:=Lib.hid hf9;have HK9:=Lib.hid hK9;have HC9:=Lib.hid hc9;clear hU9 hL9 hf9 hK9 hc9)
          have HS9:=Lib.hid (solU_exP HSC.out HF9.out (fun x hx hk=>by obtain⟨cs,h1⟩:=HC9.out x hk;exact solU_apart HSC.out x _ _ _ h1 (by decide) hx) HK9.out HL9.out (fun x hx=>(HU9.out.lo x hx).2))
          have cB:=Lib.hid (@sv_absent _ (exP E (L++aBlk O9)) w9 P Q N0 N1 N2 G' R' A' HS9.out z2.fd HWF.out _ _ _ _ (HOK.out.2.keep (UmM.shx (L:=L++aBlk O9) HU9.out (fun x hx=>(HNO.out x hx).1))))
          rw[← HR1.out] at cB
          refine cB.out.mono ?_
          rintro e3 w6 ⟨rfl,hf6,hu6⟩
          have HU7:=Lib.hid (HU9.out.keepS hf6 (solU_apart HS9.out) HNW.out)
          have HF6:=Lib.hid hf6
          have HU6':=Lib.hid hu6
          clear hf6 hu6 cB l0 l1 k0 k1 hs0 hs1 y0 y1 y2 y3 y4 y5 y6 y7 hgl
          by_cases he:r1.1=0
          ·have c5:(r1.1==0)=true:=by simp[he]
           have c6:(r1.1 != 0)=false:=by simp[he]
           obtain⟨G2,Y0,Y1,Y2,R2,hU2,hA2,hn2,hm2⟩:=HU6'.out he
           have hnx:uniM kk r1.2 (apFs A.s (x1.map (·.fd)),e1) (apFs A.s (x2.map (·.fd)),e2) (zs.drop (i+1))=some rm:=by
            rcases HNX.out with⟨c,_⟩| ⟨_,c⟩
            ·exact absurd he c
            ·exact c
           have HS2:Hid (∃ (G':Ctx) (N0 N1 N2:Option Nat) (R':Raw) (A':Ab) (m':Nat),m'≤n∧@SolU _ (exP E (L++aBlk O9)) w6 P Q N0 N1 N2 G' R' A'∧Adv G A G' A'∧(∀ x ∈ solL Q N0 N1 N2,x ∈ solL Q M0 M1 M2∨w.heap.size≤x)∧A'.most+cnt A'≤A.most+cnt A∧uniM m' A' (apFs A.s (x1.map (·.fd)),e1) (apFs A.s (x2.map (·.fd)),e2) (zs.drop (i+1))=some rm):=Lib.hid
            ⟨G2,Y0,Y1,Y2,R2,r1.2,kk,hmn',hU2,HAD.out.trans hA2,fun x hx=>by
             rcases hn2 x hx with c|c
             ·exact HNW.out x c
             ·have h1:=HU9.out.fr.size
              exact .inr (Nat.le_trans h1 c),Int.le_trans hm2 HCN.out,hnx⟩
           clear hU2 hA2 hn2 hm2 hnx he
           go_wp2_with fail
           go_roundw
           case rel=>exact⟨i+1,O1,s1,o1,O9,s9,(o2++[z2]),L++aBlk O9,by first|rfl|simp|go_num,by simp,by simp,by omega,HU7,HS2⟩
           case measure=>simp[intOf];omega
          ·have c5:(r1.1==0)=false:=beq_eq_false_iff_ne.2 he
           have c6:(r1.1 != 0)=true:=by simp[he]
           have hrr:r=r1:=by
            have e1:rm=r1:=by
             rcases HNX.out with⟨_,c⟩| ⟨c,_⟩
             ·exact c
             ·exact absurd c he
            rcases HCA.out with⟨_,c⟩| ⟨c,_⟩
            ·rw[c,e1]
            ·rw[e1] at c;exact absurd c he
           have HE:=Lib.hid hrr
           have HE2:=Lib.hid he
           clear hrr he
           go_wp2_with fail
           go_ret
           rw[HE.out]
           exact⟨rfl,HU7.out.fr,fun c=>absurd c HE2.out⟩
         ·have c8:(e1==0)=false:=beq_eq_false_iff_ne.2 hez
          rw[if_neg hez] at hr1
          have HR1:=Lib.hid hr1
          clear hr1 hez
          go_wp2_with (at_builtin;refine wpList_append_fp _ rfl _ _ 23 rfl 44 i0 _ 8 104 Tryz.underlying23 HI.out HZ0.out HZ1.out HZ2.out rfl (by decide) (.slice O2 o2.length s2) o2.length (o2.flatMap encF) rfl HOW.out ⟨wc.heap.size,0,none⟩ 1 1 (encF z2) rfl rfl HNS.out (encF_one z2) (by simp only[maxLen];omega) (by omega) ?_;intro v9 w9 hown9 hgrow9 hfp9;obtain⟨O9,s9,rfl⟩:=own_any hown9;obtain⟨hU9,hL9,K9,hf9,hK9,hc9⟩:=HUC.out.app2 HXX.out HOK.out HO1.out HO2.out F8.out hown9 hgrow9 hfp9;clear hown9 hgrow9 hfp9 l0 l1 k0 k1 y0 y1 y2 y3 y4 y5 y6 y7 hgl hs0 hs1;obtain⟨⟨l0,l1⟩,_⟩:=cells2 hU9.b1;obtain⟨⟨k0,k1⟩,_⟩:=cells2 hU9.b2;have hs0:=lt_of_heap hU9.b1;have hs1:=lt_of_heap hU9.b2;have HU9:=Lib.hid hU9;have HL9:=Lib.hid hL9;have HF9:=Lib.hid hf9;have HK9:=Lib.hid hK9;have HC9:=Lib.hid hc9;clear hU9 hL9 hf9 hK9 hc9)
          have HS9:=Lib.hid (solU_exP HSC.out HF9.out (fun x hx hk=>by obtain⟨cs,h1⟩:=HC9.out x hk;exact solU_apart HSC.out x _ _ _ h1 (by decide) hx) HK9.out HL9.out (fun x hx=>(HU9.out.lo x hx).2))
          have hnx:uniM kk A' (apFs A.s (x1.map (·.fd)),e1) (apFs A.s (x2.map (·.fd)),e2) (zs.drop (i+1))=some rm:=by
           rcases HNX.out with⟨c,_⟩| ⟨_,c⟩
           ·rw[HR1.out] at c;exact absurd rfl c
           ·rw[HR1.out] at c;exact c
          have HS2:Hid (∃ (G':Ctx) (N0 N1 N2:Option Nat) (R':Raw) (A':Ab) (m':Nat),m'≤n∧@SolU _ (exP E (L++aBlk O9)) w9 P Q N0 N1 N2 G' R' A'∧Adv G A G' A'∧(∀ x ∈ solL Q N0 N1 N2,x ∈ solL Q M0 M1 M2∨w.heap.size≤x)∧A'.most+cnt A'≤A.most+cnt A∧uniM m' A' (apFs A.s (x1.map (·.fd)),e1) (apFs A.s (x2.map (·.fd)),e2) (zs.drop (i+1))=some rm):=Lib.hid ⟨G',N0,N1,N2,R',A',kk,hmn',HS9.out,HAD.out,HNW.out,HCN.out,hnx⟩
          clear hnx l0 l1 k0 k1 hs0 hs1
          go_roundw
          case rel=>exact⟨i+1,O1,s1,o1,O9,s9,(o2++[z2]),(L++aBlk O9),by first|rfl|simp|go_num,by simp,by simp,by omega,HU9,HS2⟩
          case measure=>simp[intOf];omega
      ·
       have hie:i=zs.length:=by omega
       subst hie
       have q2:¬ (zs.length:Int)<(zs.length:Int):=by omega
       obtain⟨G',N0,N1,N2,R',A',m',hmn,hSU,hAD,hNW,hCN,hUM⟩:=HS.out
       rw[List.drop_length] at hUM
       have hrm:=uniM_nil hUM
       have hq1:o1.map (·.fd)=onlyL (x1.map (·.fd)) (x2.map (·.fd)) zs:=by
        have h1:o1.map (·.fd)=onlyL (x1.map (·.fd)) (x2.map (·.fd)) (zs.take zs.length):=HU.out.q1
        rw[List.take_length] at h1;exact h1
       have hq2:o2.map (·.fd)=onlyL (x2.map (·.fd)) (x1.map (·.fd)) zs:=by
        have h1:o2.map (·.fd)=onlyL (x2.map (·.fd)) (x1.map (·.fd)) (zs.take zs.length):=HU.out.q2
        rw[List.take_length] at h1;exact h1
       have hSD:@SolU _ E wr P Q N0 N1 N2 G' R' A':=solU_drop hSU
       have hres:(if (told A' e1||told A' e2)=true then uniR n A' (o1.map (·.fd)) e1 (o2.map (·.fd)) e2 else some (restsA A' e1 e2 (o1.map (·.fd)) (o2.map (·.fd))))=some r:=by
        rcases HCA.out with⟨c,_⟩| ⟨_,c⟩
        ·rw[hrm] at c;exact absurd rfl c
        ·rw[hrm,← hq1,← hq2] at c
         dsimp only at c
         rw[uniR_congr (apRow_congr (farFs hAD H.out.ok _) _) (apRow_congr (farFs hAD H.out.ok _) _),restsA_congr (farFs hAD H.out.ok _) (farFs hAD H.out.ok _)] at c
         exact c
       have htw:Two G k C (x1.map (·.fd),e1) (x2.map (·.fd),e2):=⟨HL1.out.wf,HL2.out.wf,HL1.out.ok,HL2.out.ok⟩
       have hzri:Ri zs:=by rw[HZE.out];exact lsOf_ri _ _
       obtain⟨wo1,ro1⟩:=only_row htw hzri (fun x hx=>by rw[HZE.out];exact lsOf_mem.2 (.inl hx))
       obtain⟨wo2,ro2⟩:=only_row htw.symm hzri (fun x hx=>by rw[HZE.out];exact lsOf_mem.2 (.inr hx))
       dsimp only at wo1 ro1 wo2 ro2
       rw[← hq1] at wo1 ro1
       rw[← hq2] at wo2 ro2
       have ro2':=ro2.iff (fun x=>(by rw[and_comm]:(C x∨x ∈ labs (x2.map (·.fd))∧x ∈ labs (x1.map (·.fd)))↔(C x∨x ∈ labs (x1.map (·.fd))∧x ∈ labs (x2.map (·.fd)))))
       have hno:∀ x ∈ solL Q M0 M1 M2,¬ okW w x:=fun x hx=>(HNO.out x hx).1
       have t1:FsAt wr (okW wr) P (.slice O1 o1.length s1) (o1.map (·.fd)):=HU.out.fs1 hno H.out.ex
       have t2:FsAt wr (okW wr) P (.slice O2 o2.length s2) (o2.map (·.fd)):=HU.out.fs2 hno H.out.ex
       have hb1:wr.heap[T]?=some (.cells #[.slice A1 x1.length a1,.int .i64 e1] 25 (0,0)):=HU.out.b1
       have hb2:wr.heap[T+1]?=some (.cells #[.slice A2 x2.length a2,.int .i64 e2] 25 (0,0)):=HU.out.b2
       have hFR:Fr (solL Q M0 M1 M2) w wr:=HU.out.fr
       have hL9:∀ {o:List FdM} {L1 L2:List Fd},o.map (·.fd)=onlyL L1 L2 zs→(o.map (·.fd)).length≤1099511627776:=fun{o L1 L2} h=>by
        have h2:=(onlyL_sub L1 L2 zs).length_le
        rw[labs,List.length_map] at h2
        rw[h];omega
       have hdis:∀ f,f ∈ o1.map (·.fd)→f.lb ∉ labs (o2.map (·.fd)):=fun f hf hx=>by
        rw[hq1] at hf;rw[hq2] at hx
        obtain⟨f2,h2,h3⟩:=labs_mem.1 hx
        exact(onlyL_mem hf).2.2 (labs_mem.2 ⟨f2,(onlyL_mem h2).2.1,h3⟩)
       have hdis2:∀ f,f ∈ o2.map (·.fd)→f.lb ∉ labs (o1.map (·.fd)):=fun f hf hx=>by
        rw[hq2] at hf;rw[hq1] at hx
        obtain⟨f2,h2,h3⟩:=labs_mem.1 hx
        exact(onlyL_mem hf).2.2 (labs_mem.2 ⟨f2,(onlyL_mem h2).2.1,h3⟩)
       have hRO:RestsOk G' k (fun x=>C x∨x ∈ labs (x1.map (·.fd))∧x ∈ labs (x2.map (·.fd))) e1 e2 (o1.map (·.fd)) (o2.map (·.fd)):=⟨wfFs_le hAD.le wo1,wfFs_le hAD.le wo2,ro1.1,ro2'.1,fun f hf=>⟨(ro1.2.1 f hf).1,(ro1.2.1 f hf).2.1,hdis f hf,(ro1.2.1 f hf).2.2⟩,fun f hf=>⟨(ro2'.2.1 f hf).1,(ro2'.2.1 f hf).2.1,hdis2 f hf,(ro2'.2.1 f hf).2.2⟩,(ro1.le hAD.le).2.2,(ro2'.le hAD.le).2.2,hL9 hq1,hL9 hq2⟩
       have hlk:∀ v,0≤v→told A' v=false→lk v R'.rws=none:=fun v h0 ht=>by
        rw[← told_eq hSD v] at ht
        by_cases c:0<v
        ·simp[c] at ht;exact ht
        ·have hv:v=0:=by omega
         rw[hv];exact hSD.lk0
       have hp1:0≤e1:=by rcases ro1.2.2 with c|⟨c,_⟩<;> omega
       have hp2:0≤e2:=by rcases ro2.2.2 with c|⟨c,_⟩<;> omega
       have hmm:A'.most+cnt A'≤4398046511104:=by have h1:=HM.out;omega
       have cT1:∀ X,Fr [] wr X→Hid (Calls Tryz.prog 69 #[.pointer (some ⟨Q,0,none⟩),.int .i64 e1] X fun e w'=>e = .returned (.bool (told A' e1))∧Fr [] X w'):=fun X hX=>Lib.hid (by rw[← told_eq hSD e1];exact sv_told hX hSD.sw.at_ e1)
       have cT2:∀ X,Fr [] wr X→Hid (Calls Tryz.prog 69 #[.pointer (some ⟨Q,0,none⟩),.int .i64 e2] X fun e w'=>e = .returned (.bool (told A' e2))∧Fr [] X w'):=fun X hX=>Lib.hid (by rw[← told_eq hSD e2];exact sv_told hX hSD.sw.at_ e2)
       have cR:(told A' e1||told A' e2)=true→∀ X,Fr [] wr X→Hid (Calls Tryz.prog 46 #[.pointer (some ⟨Q,0,none⟩),.agg #[.slice O1 o1.length s1,.int .i64 e1],.agg #[.slice O2 o2.length s2,.int .i64 e2]] X (UR X P Q N0 N1 N2 G' A' r)):=fun ht X hX=>Lib.hid (by
        rw[if_pos ht] at hres
        have h1:=IHR.out E X P Q N0 N1 N2 G' R' A' k (fun x=>C x∨x ∈ labs (x1.map (·.fd))∧x ∈ labs (x2.map (·.fd))) (o1.map (·.fd)) (o2.map (·.fd)) e1 e2 O1 O2 s1 s2 r hres (hSD.fr hX) hmm ((Two.mk (q:=(o1.map (·.fd),e1)) (p:=(o2.map (·.fd),e2)) wo1 wo2 ro1 ro2').le hAD.le) (by rw[List.length_map];exact t1.keep (sh0 hX)) (by rw[List.length_map];exact t2.keep (sh0 hX))
        rw[List.length_map,List.length_map] at h1
        exact h1)
       have cQ:told A' e1=false→told A' e2=false→∀ X,Fr [] wr X→Hid (Calls Tryz.prog 70 #[.pointer (some ⟨Q,0,none⟩),.int .i64 e1,.int .i64 e2,.slice O1 o1.length s1,.slice O2 o2.length s2] X (UR X P Q N0 N1 N2 G' A' r)):=fun h1 h2 X hX=>Lib.hid (by
        rw[if_neg (by rw[h1,h2];simp)] at hres
        have h3:=sv_rests (hSD.fr hX) hmm hRO (hlk e1 hp1 h1) (hlk e2 hp2 h2) (B1:=O1) (B2:=O2) (d1:=s1) (d2:=s2) (by rw[List.length_map];exact t1.keep (sh0 hX)) (by rw[List.length_map];exact t2.keep (sh0 hX))
        rw[List.length_map,List.length_map,Option.some.inj hres] at h3
        exact h3)
       obtain⟨⟨l0,l1⟩,_⟩:=cells2 hb1
       obtain⟨⟨k0,k1⟩,_⟩:=cells2 hb2
       have hs0:=lt_of_heap hb1
       have hs1:=lt_of_heap hb2
       have HB1:=Lib.hid hb1
       have HB2:=Lib.hid hb2
       have HAD:=Lib.hid hAD
       have HNW:=Lib.hid hNW
       have HCN:=Lib.hid hCN
       have HFR:=Lib.hid hFR
       have CR:=Lib.hid cR
       have CQ:=Lib.hid cQ
       clear hmn hSU hAD hNW hCN hUM hrm hq1 hq2 hSD hres htw hzri wo1 ro1 wo2 ro2 ro2' hno t1 t2 hb1 hb2 hFR hL9 hdis hdis2 hRO hlk hp1 hp2 hmm cR cQ HS
       cases hd1:told A' e1 with
       | true =>
        have cU:=Lib.hid (CR.out (by rw[hd1];rfl))
        rw[hd1] at cT1
        clear hd1 cT2 CR CQ
        go_wp2_with fail
        refine(cT1 _ (Fr.refl [] wr)).out.mono ?_
        rintro e w6 ⟨rfl,f6⟩
        have F6:=Lib.hid f6
        have j1:=f6.keep HB1.out (fun x=>by cases x)
        have j2:=f6.keep HB2.out (fun x=>by cases x)
        clear f6 cT1 l0 l1 k0 k1 hs0 hs1
        obtain⟨⟨l0,l1⟩,_⟩:=cells2 j1
        obtain⟨⟨k0,k1⟩,_⟩:=cells2 j2
        have hs0:=lt_of_heap j1
        have hs1:=lt_of_heap j2
        clear j1 j2
        go_wp2_with fail
        refine(cU.out _ F6.out).out.mono ?_
        rintro e3 w7 ⟨rfl,hu⟩
        have HN:=Lib.hid hu
        clear hu cU
        go_wp2_with fail
        go_ret
        exact UR.after HAD.out (HFR.out.trans0 F6.out) HNW.out HCN.out ⟨rfl,HN.out⟩
       | false =>
        cases hd2:told A' e2 with
        | true =>
         have cU:=Lib.hid (CR.out (by rw[hd1,hd2];rfl))
         rw[hd1] at cT1
         rw[hd2] at cT2
         clear hd1 hd2 CR CQ
         go_wp2_with fail
         refine(cT1 _ (Fr.refl [] wr)).out.mono ?_
         rintro e w6 ⟨rfl,f6⟩
         have F6:=Lib.hid f6
         have j1:=f6.keep HB1.out (fun x=>by cases x)
         have j2:=f6.keep HB2.out (fun x=>by cases x)
         clear f6 cT1 l0 l1 k0 k1 hs0 hs1
         obtain⟨⟨l0,l1⟩,_⟩:=cells2 j1
         obtain⟨⟨k0,k1⟩,_⟩:=cells2 j2
         have hs0:=lt_of_heap j1
         have hs1:=lt_of_heap j2
         have J1:=Lib.hid j1
         have J2:=Lib.hid j2
         clear j1 j2
         go_wp2_with fail
         refine(cT2 _ F6.out).out.mono ?_
         rintro e w7 ⟨rfl,f7⟩
         have F7:=Lib.hid (F6.out.trans f7)
         have j1:=f7.keep J1.out (fun x=>by cases x)
         have j2:=f7.keep J2.out (fun x=>by cases x)
         clear f7 cT2 l0 l1 k0 k1 hs0 hs1
         obtain⟨⟨l0,l1⟩,_⟩:=cells2 j1
         obtain⟨⟨k0,k1⟩,_⟩:=cells2 j2
         have hs0:=lt_of_heap j1
         have hs1:=lt_of_heap j2
         clear j1 j2
         go_wp2_with fail
         refine(cU.out _ F7.out).out.mono ?_
         rintro e3 w8 ⟨rfl,hu⟩
         have HN:=Lib.hid hu
         clear hu cU
         go_wp2_with fail
         go_ret
         exact UR.after HAD.out (HFR.out.trans0 F7.out) HNW.out HCN.out ⟨rfl,HN.out⟩
        | false =>
         have cU:=Lib.hid (CQ.out hd1 hd2)
         rw[hd1] at cT1
         rw[hd2] at cT2
         clear hd1 hd2 CR CQ
         go_wp2_with fail
         refine(cT1 _ (Fr.refl [] wr)).out.mono ?_
         rintro e w6 ⟨rfl,f6⟩
         have F6:=Lib.hid f6
         have j1:=f6.keep HB1.out (fun x=>by cases x)
         have j2:=f6.keep HB2.out (fun x=>by cases x)
         clear f6 cT1 l0 l1 k0 k1 hs0 hs1
         obtain⟨⟨l0,l1⟩,_⟩:=cells2 j1
         obtain⟨⟨k0,k1⟩,_⟩:=cells2 j2
         have hs0:=lt_of_heap j1
         have hs1:=lt_of_heap j2
         have J1:=Lib.hid j1
         have J2:=Lib.hid j2
         clear j1 j2
         go_wp2_with fail
         refine(cT2 _ F6.out).out.mono ?_
         rintro e w7 ⟨rfl,f7⟩
         have F7:=Lib.hid (F6.out.trans f7)
         have j1:=f7.keep J1.out (fun x=>by cases x)
         have j2:=f7.keep J2.out (fun x=>by cases x)
         clear f7 cT2 l0 l1 k0 k1 hs0 hs1
         obtain⟨⟨l0,l1⟩,_⟩:=cells2 j1
         obtain⟨⟨k0,k1⟩,_⟩:=cells2 j2
         have hs0:=lt_of_heap j1
         have hs1:=lt_of_heap j2
         clear j1 j2
         go_wp2_with fail
         refine(cU.out _ F7.out).out.mono ?_
         rintro e3 w8 ⟨rfl,hu⟩
         have HN:=Lib.hid hu
         clear hu cU
         go_wp2_with fail
         go_ret
         exact UR.after HAD.out (HFR.out.trans0 F7.out) HNW.out HCN.out ⟨rfl,HN.out⟩
end
section
variable [LoB]
attribute [local instance] Ex.no
theorem unr_all:∀ n,(∀ E:Ex,@UNC _ E n)∧(∀ E:Ex,@URC _ E n)
 | 0=>⟨fun E=>(by intro _ _ _ _ _ _ _ _ _ _ _ _ _ _ _ _ _ _ _ _ h;rw[uni] at h;exact absurd h (by simp)),fun E=>(by intro _ _ _ _ _ _ _ _ _ _ _ _ _ _ _ _ _ _ _ _ h;rw[uniR] at h;exact absurd h (by simp))⟩
 | n+1=>⟨fun E=>@unify_step _ E n ((unr_all n).1 E) ((unr_all n).2 E),fun E=>unifyRows_step (unr_all n).1 (unr_all n).2 E⟩
theorem cnt_le(A:Ab):(cnt A:Int)≤max A.most 0:=by
 have h:cnt A≤A.most.toNat:=by
  unfold cnt
  refine Nat.le_trans (List.length_filter_le _ _) ?_
  rw[List.length_range];exact Nat.le_refl _
 omega
section
variable {w w':World} {P:List UInt8→Prop} {Q:Nat} {M0 M1 M2:Option Nat} {G:Ctx} {R:Raw} {s:Sub} {m:Int} {ta tb a b:TyT}
theorem SolAt.types(h:SolAt w P Q M0 M1 M2 R m ta tb){A B A' B':Option Addr}{c d c' d':Nat}(hta:TyAt w (okW w) P a [.int .i64 a.k,.int .i64 a.v,.slice A a.args.length c,.slice B a.fs.length d,.int .i64 a.rest])(htb:TyAt w (okW w) P b [.int .i64 b.k,.int .i64 b.v,.slice A' b.args.length c',.slice B' b.fs.length d',.int .i64 b.rest]):
  SolAt (st5o (st5o w Q 4 (.int .i64 a.k) (.int .i64 a.v) (.slice A a.args.length c) (.slice B a.fs.length d) (.int .i64 a.rest)) Q 9 (.int .i64 b.k) (.int .i64 b.v) (.slice A' b.args.length c') (.slice B' b.fs.length d') (.int .i64 b.rest)) P Q M0 M1 M2 R m a b ∧
   Fr [Q] w (st5o (st5o w Q 4 (.int .i64 a.k) (.int .i64 a.v) (.slice A a.args.length c) (.slice B a.fs.length d) (.int .i64 a.rest)) Q 9 (.int .i64 b.k) (.int .i64 b.v) (.slice A' b.args.length c') (.slice B' b.fs.length d') (.int .i64 b.rest)):=by
 have f5:∀ (w:World) (o:Nat) (a b c d e:Value),Fr [Q] w (st5o w Q o a b c d e):=fun w o a b c d e=>((((((Fr.refl [Q] w).setCell (p:=⟨Q,o,none⟩) (.inl (by simp)) a).setCell (p:=⟨Q,o+1,none⟩) (.inl (by simp)) b).setCell (p:=⟨Q,o+2,none⟩) (.inl (by simp)) c).setCell (p:=⟨Q,o+3,none⟩) (.inl (by simp)) d).setCell (p:=⟨Q,o+4,none⟩) (.inl (by simp)) e)
 have hf:=(f5 w 4 (.int .i64 a.k) (.int .i64 a.v) (.slice A a.args.length c) (.slice B a.fs.length d) (.int .i64 a.rest)).trans (f5 _ 9 (.int .i64 b.k) (.int .i64 b.v) (.slice A' b.args.length c') (.slice B' b.fs.length d') (.int .i64 b.rest))
 have hno:∀ x ∈ [Q],¬ okW w x:=fun x hx=>by simp at hx;subst hx;exact(h.not_ok x (by simp[solL])).1
 obtain⟨A1,c1,B1,d1,A2,c2,B2,d2,g,g1,g2⟩:=h.blk
 obtain⟨q0,q1,q2⟩:=h.notQ
 refine⟨⟨⟨A,c,B,d,A',c',B',d',?_,hta.keep (sh_ok hf hno),htb.keep (sh_ok hf hno)⟩,h.t.keep hf (fun x e hx=>q0 (by simp at hx;rw[← hx];exact e)) (fun x u=>TyV.keep hf hno),h.p.keep hf (fun x e hx=>q1 (by simp at hx;rw[← hx];exact e)) (fun x u h=>h),h.r.keep hf (fun x e hx=>q2 (by simp at hx;rw[← hx];exact e)) (fun x u=>RwV.keep hf hno),h.n0,h.n1,h.hi⟩,hf⟩
 simp[st5o,World.setCell,Array.getElem?_modify,g]
end
theorem sv_Unify{w:World}{P:List UInt8→Prop}{Q:Nat}{M0 M1 M2:Option Nat}{G:Ctx}{R:Raw}{s:Sub}{m:Int}{ta tb a b:TyT}(h:SolW w P Q M0 M1 M2 G R s m ta tb)(ha:AOk G ⟨s,seenT b (seenT a m),a,b⟩)(hm:seenT b (seenT a m)≤2199023255552)
  {A B A' B':Option Addr} {c d c' d':Nat} (hta:TyAt w (okW w) P a [.int .i64 a.k,.int .i64 a.v,.slice A a.args.length c,.slice B a.fs.length d,.int .i64 a.rest]) (htb:TyAt w (okW w) P b [.int .i64 b.k,.int .i64 b.v,.slice A' b.args.length c',.slice B' b.fs.length d',.int .i64 b.rest]):
  ∃ n r,Unify n ⟨s,m,ta,tb⟩ a b (seenT b (seenT a m))=some r∧Calls Tryz.prog 12 #[.pointer (some ⟨Q,0,none⟩),.agg #[.int .i64 a.k,.int .i64 a.v,.slice A a.args.length c,.slice B a.fs.length d,.int .i64 a.rest],.agg #[.int .i64 b.k,.int .i64 b.v,.slice A' b.args.length c',.slice B' b.fs.length d',.int .i64 b.rest]] w
   (UR w P Q M0 M1 M2 G ⟨s,seenT b (seenT a m),a,b⟩ r):=by
 obtain⟨n,r,hn⟩:∃ n r,Unify n ⟨s,m,ta,tb⟩ a b (seenT b (seenT a m))=some r:=by
  obtain⟨n,r,e⟩:=uni_end ha ha.wa ha.wb
  unfold Unify
  dsimp only
  by_cases hg:Ab.grown ⟨s,seenT b (seenT a m),a,b⟩≠0
  ·exact⟨0,_,if_pos hg⟩
  ·exact⟨n,r,by rw[if_neg hg];exact e⟩
 refine⟨n,r,hn,?_⟩
 unfold Unify at hn
 dsimp only at hn
 have wa:WfT G a:=ha.wa
 have wb:WfT G b:=ha.wb
 have la:=lim_of h.few hta wa
 have lb:=lim_of h.few htb wb
 have f0:=((Fr.refl [] w).alloc (.cells #[.int .i64 a.k,.int .i64 a.v,.slice A a.args.length c,.slice B a.fs.length d,.int .i64 a.rest] 27)).alloc (.cells #[.int .i64 b.k,.int .i64 b.v,.slice A' b.args.length c',.slice B' b.fs.length d',.int .i64 b.rest] 27)
 have g0:=heap_old (heap_new w (.cells #[.int .i64 a.k,.int .i64 a.v,.slice A a.args.length c,.slice B a.fs.length d,.int .i64 a.rest] 27)) (.cells #[.int .i64 b.k,.int .i64 b.v,.slice A' b.args.length c',.slice B' b.fs.length d',.int .i64 b.rest] 27)
 have g1:=heap_new (w.alloc (.cells #[.int .i64 a.k,.int .i64 a.v,.slice A a.args.length c,.slice B a.fs.length d,.int .i64 a.rest] 27)) (.cells #[.int .i64 b.k,.int .i64 b.v,.slice A' b.args.length c',.slice B' b.fs.length d',.int .i64 b.rest] 27)
 rw[World.size_alloc] at g1
 have hQno:¬ okW w Q:=(h.at_.not_ok Q (by simp[solL])).1
 have hQl:=h.at_.lt
 have H:=Lib.hid h
 have HN:=Lib.hid hn
 have HA:=Lib.hid ha
 have HTA:=Lib.hid hta
 have HTB:=Lib.hid htb
 have HQ:=Lib.hid hQno
 have HLA:=Lib.hid la
 have HLB:=Lib.hid lb
 have HF0:=Lib.hid f0
 have HG0:=Lib.hid g0
 have HG1:=Lib.hid g1
 obtain⟨⟨l0,l1,l2,l3,l4⟩,_⟩:=cells5 g0
 obtain⟨⟨k0,k1,k2,k3,k4⟩,_⟩:=cells5 g1
 have hs0:=lt_of_heap g0
 have hs1:=lt_of_heap g1
 have n0:¬ w.heap.size=w.heap.size+1:=by omega
 have n1:¬ w.heap.size+1=w.heap.size:=by omega
 have cS1:=Lib.hid (seen_all _ w _ P Q M0 M1 M2 R m ta tb a A B c d (Nat.lt_succ_self _) (f0.mono (fun x hx=>by cases hx)) hQno (h.at_.fr f0) la hta)
 obtain⟨m2,hm2⟩:∃ m2,m2=seenT b (seenT a m):=⟨_,rfl⟩
 rw[← hm2] at HN HA hm ⊢
 have HM2:=Lib.hid hm2
 clear h hn ha hta htb hQno la lb f0 g0 g1 wa wb hm2
 go_enter Tryz.func12,Tryz.ntmps12
 go_wp2_with fail
 refine cS1.out.mono ?_
 rintro e w6 ⟨rfl,hS6,f6⟩
 generalize (w.alloc (.cells #[.int .i64 a.k,.int .i64 a.v,.slice A a.args.length c,.slice B a.fs.length d,.int .i64 a.rest] 27)).alloc (.cells #[.int .i64 b.k,.int .i64 b.v,.slice A' b.args.length c',.slice B' b.fs.length d',.int .i64 b.rest] 27)=x at *
 generalize hT:w.heap.size=T at *
 have j0:=f6.keep HG0.out (by simp;omega)
 have j1:=f6.keep HG1.out (by simp;omega)
 have HJ0:=Lib.hid j0
 have HJ1:=Lib.hid j1
 have HF6:=Lib.hid ((HF0.out.mono (L':=[Q]) (fun x hx=>by cases hx)).trans f6)
 have cS2:=Lib.hid (seen_all _ w w6 P Q M0 M1 M2 R _ ta tb b A' B' c' d' (Nat.lt_succ_self _) HF6.out HQ.out hS6 HLB.out HTB.out)
 clear l0 l1 l2 l3 l4 k0 k1 k2 k3 k4 hs0 hs1 cS1 hS6 f6
 obtain⟨⟨l0,l1,l2,l3,l4⟩,_⟩:=cells5 j0
 obtain⟨⟨k0,k1,k2,k3,k4⟩,_⟩:=cells5 j1
 have hs0:=lt_of_heap j0
 have hs1:=lt_of_heap j1
 clear j0 j1
 go_wp2_with fail
 refine cS2.out.mono ?_
 rintro e w7 ⟨rfl,hS7,f7⟩
 rw[← HM2.out] at hS7
 have j0:=f7.keep HJ0.out (by simp;omega)
 have j1:=f7.keep HJ1.out (by simp;omega)
 have HF7:=Lib.hid (HF6.out.trans f7)
 clear l0 l1 l2 l3 l4 k0 k1 k2 k3 k4 hs0 hs1 cS2 f7 HJ0 HJ1 HF6
 have HJ0:=Lib.hid j0
 have HJ1:=Lib.hid j1
 obtain⟨⟨l0,l1,l2,l3,l4⟩,_⟩:=cells5 j0
 obtain⟨⟨k0,k1,k2,k3,k4⟩,_⟩:=cells5 j1
 have hs0:=lt_of_heap j0
 have hs1:=lt_of_heap j1
 have hno:∀ x ∈ [Q],¬ okW w x:=fun x hx=>by simp at hx;subst hx;exact HQ.out
 have hta7:=HTA.out.keep (sh_ok HF7.out hno)
 have htb7:=HTB.out.keep (sh_ok HF7.out hno)
 obtain⟨hS8,f8⟩:=hS7.types hta7 htb7
 have HS8:=Lib.hid hS8
 have HF8:=Lib.hid f8
 have hQ7:=hS7.lt
 have nq0:¬ Q=T:=by omega
 have nq1:¬ Q=T+1:=by omega
 have nq2:¬ T=Q:=by omega
 have nq3:¬ T+1=Q:=by omega
 obtain⟨X1,x1,X2,x2,X3,x3,X4,x4,gQ,_⟩:=hS7.blk
 have e4:=(cell_of gQ 4).trans rfl
 have z4:=frozen_of gQ 4
 have e5:=(cell_of gQ 5).trans rfl
 have z5:=frozen_of gQ 5
 have e6:=(cell_of gQ 6).trans rfl
 have z6:=frozen_of gQ 6
 have e7:=(cell_of gQ 7).trans rfl
 have z7:=frozen_of gQ 7
 have e8:=(cell_of gQ 8).trans rfl
 have z8:=frozen_of gQ 8
 have e9:=(cell_of gQ 9).trans rfl
 have z9:=frozen_of gQ 9
 have e10:=(cell_of gQ 10).trans rfl
 have z10:=frozen_of gQ 10
 have e11:=(cell_of gQ 11).trans rfl
 have z11:=frozen_of gQ 11
 have e12:=(cell_of gQ 12).trans rfl
 have z12:=frozen_of gQ 12
 have e13:=(cell_of gQ 13).trans rfl
 have z13:=frozen_of gQ 13
 clear j0 j1 hS7 hta7 htb7 hS8 f8 hno gQ
 go_wp2_with fail
 go_region
 have hS9:=HS8.out.fr ((Fr.refl [] _).drew)
 have f9:=(HF7.out.trans HF8.out).drew
 have hsw:SolW _ P Q M0 M1 M2 G R s m2 a b:=⟨hS9,H.out.rk,H.out.rep,H.out.so,H.out.sw,H.out.raw,H.out.few⟩
 have hta9:=HTA.out.keep (sh_ok f9 (fun x hx=>by simp at hx;subst hx;exact HQ.out))
 have htb9:=HTB.out.keep (sh_ok f9 (fun x hx=>by simp at hx;subst hx;exact HQ.out))
 have hj9:=HF8.out.drew.keep HJ0.out (by simp;omega)
 have hk9:=HF8.out.drew.keep HJ1.out (by simp;omega)
 have HSW:=Lib.hid hsw
 have HF9:=Lib.hid f9
 have HTA9:=Lib.hid hta9
 have HTB9:=Lib.hid htb9
 have HJ9:=Lib.hid hj9
 have HK9:=Lib.hid hk9
 clear hS9 f9 hsw hta9 htb9 hj9 hk9 HS8 HF8 l0 l1 l2 l3 l4 k0 k1 k2 k3 k4 e4 e5 e6 e7 e8 e9 e10 e11 e12 e13 z4 z5 z6 z7 z8 z9 z10 z11 z12 z13 hs0 hs1
 unfold st5o at HSW HF9 HTA9 HTB9 HJ9 HK9
 simp only[Nat.reduceAdd] at HSW HF9 HTA9 HTB9 HJ9 HK9
 generalize World.drew _=Z at *
 have cG:=Lib.hid (sv_grown (Fr.refl [] Z) HSW.out HA.out.wa HA.out.wb)
 have hQ9:=HSW.out.at_.lt
 go_wp2_with fail
 refine cG.out.mono ?_
 rintro e w8 ⟨rfl,f8⟩
 have HF10:=Lib.hid ((HF9.out.mono (L':=solL Q M0 M1 M2) (fun x hx => .inl (by simp at hx;subst hx;simp[solL]))).trans0 f8)
 have hSU:SolU w8 P Q M0 M1 M2 G R ⟨s,m2,a,b⟩:=⟨HSW.out.fr f8,HA.out,fun b hb=>hb.elim⟩
 have HSU:=Lib.hid hSU
 have HTA8:=Lib.hid (HTA9.out.keep (sh0 f8))
 have HTB8:=Lib.hid (HTB9.out.keep (sh0 f8))
 have j8:=f8.keep HJ9.out (fun x=>by cases x)
 have k8:=f8.keep HK9.out (fun x=>by cases x)
 obtain⟨⟨l0,l1,l2,l3,l4⟩,_⟩:=cells5 j8
 obtain⟨⟨k0,k1,k2,k3,k4⟩,_⟩:=cells5 k8
 have hs0:=lt_of_heap j8
 have hs1:=lt_of_heap k8
 obtain⟨gr,hgr⟩:∃ gr,gr=Ab.grown ⟨s,m2,a,b⟩:=⟨_,rfl⟩
 rw[← hgr] at HN ⊢
 have HGR:=Lib.hid hgr
 clear f8 hSU j8 k8 cG HF9 HSW HTA9 HTB9 HJ9 HK9 hgr
 by_cases hg:gr=0
 ·have q1:(gr==0)=true:=by simp[hg]
  have q2:(gr != 0)=false:=by simp[hg]
  have hn:=HN.out
  rw[if_neg (by simp[hg])] at hn
  have cU:=Lib.hid ((unr_all n).1 Ex.no w8 P Q M0 M1 M2 G R ⟨s,m2,a,b⟩ a b A B A' B' c d c' d' r hn HSU.out (by
   have:=cnt_le ⟨s,m2,a,b⟩
   have h0:0≤m2:=HA.out.mo
   dsimp only at this ⊢
   omega) HA.out.wa HA.out.wb HTA8.out HTB8.out)
  clear hn hg
  go_wp2_with fail
  refine cU.out.mono ?_
  rintro e w9 hu
  obtain⟨rfl,hu⟩:=hu
  have HU:=Lib.hid hu
  clear hu cU
  go_wp2_with fail
  go_ret
  exact UR.after (.refl HA.out) HF10.out (fun x hx => .inl hx) (Int.le_refl _) ⟨rfl,HU.out⟩
 ·have q1:(gr==0)=false:=beq_eq_false_iff_ne.2 hg
  have q2:(gr != 0)=true:=by simp[hg]
  have hn:=HN.out
  rw[if_pos hg] at hn
  have HR:=Lib.hid (Option.some.inj hn)
  have HG:=Lib.hid hg
  clear hn hg
  go_wp2_with fail
  go_ret
  rw[← HR.out]
  exact⟨rfl,HF10.out,fun c=>absurd c HG.out⟩
end
section
variable [LoB]
attribute [local instance] Ex.no
@[reducible] def exB(B:Nat):Ex:=⟨fun b=>b=B⟩
theorem SolAt.sh{E E':Ex}{w w':World}{P:List UInt8→Prop}{Q:Nat}{M0 M1 M2:Option Nat}{R:Raw}{m:Int}{ta tb:TyT}(h:@SolAt _ E w P Q M0 M1 M2 R m ta tb)(hs:Sh w w' (@okW _ E w) (@okW _ E' w'))(hb:∀ x ∈ solL Q M0 M1 M2,w'.heap[x]?=w.heap[x]?):@SolAt _ E' w' P Q M0 M1 M2 R m ta tb:=by
 obtain⟨A1,c1,B1,d1,A2,c2,B2,d2,g,g1,g2⟩:=@SolAt.blk _ E w P Q M0 M1 M2 R m ta tb h
 refine @SolAt.mk _ E' _ _ _ _ _ _ _ _ _ _ ⟨A1,c1,B1,d1,A2,c2,B2,d2,(hb Q (by simp[solL])).trans g,g1.keep hs,g2.keep hs⟩ ?_ ?_ ?_ (@SolAt.n0 _ E w P Q M0 M1 M2 R m ta tb h) (@SolAt.n1 _ E w P Q M0 M1 M2 R m ta tb h) (@SolAt.hi _ E w P Q M0 M1 M2 R m ta tb h)
 ·rcases @SolAt.t _ E w P Q M0 M1 M2 R m ta tb h with c|⟨mm,es,n,c,hm,he⟩
  ·exact .inl c
  ·exact .inr ⟨mm,es,n,c,(hb mm (solL_mem.2 (.inr (.inl c)))).trans hm,he.imp (fun x u hx=>by obtain⟨A,c,B,d,k1,k2⟩:=hx;exact⟨A,c,B,d,k1.keep hs,k2⟩)⟩
 ·rcases @SolAt.p _ E w P Q M0 M1 M2 R m ta tb h with c|⟨mm,es,n,c,hm,he⟩
  ·exact .inl c
  ·exact .inr ⟨mm,es,n,c,(hb mm (solL_mem.2 (.inr (.inr (.inl c))))).trans hm,he⟩
 ·rcases @SolAt.r _ E w P Q M0 M1 M2 R m ta tb h with c|⟨mm,es,n,c,hm,he⟩
  ·exact .inl c
  ·exact .inr ⟨mm,es,n,c,(hb mm (solL_mem.2 (.inr (.inr (.inr c))))).trans hm,he.imp (fun x u hx=>by obtain⟨B,d,k1,k2⟩:=hx;exact⟨B,d,k1.keep hs,k2⟩)⟩
theorem SolW.most{w:World}{P:List UInt8→Prop}{Q:Nat}{M0 M1 M2:Option Nat}{G:Ctx}{R:Raw}{s:Sub}{m m':Int}{ta tb:TyT}{w':World}(h:SolW w P Q M0 M1 M2 G R s m ta tb)(hs:SolAt w' P Q M0 M1 M2 R m' ta tb):SolW w' P Q M0 M1 M2 G R s m' ta tb:=⟨hs,h.rk,h.rep,h.so,h.sw,h.raw,h.few⟩
theorem sv_Apply{w:World}{P:List UInt8→Prop}{Q:Nat}{M0 M1 M2:Option Nat}{G:Ctx}{R:Raw}{s:Sub}{m:Int}{ta tb t:TyT}(h:SolW w P Q M0 M1 M2 G R s m ta tb)(wt:WfT G t)
  {A B:Option Addr} {c d:Nat} (ht:TyAt w (okW w) P t [.int .i64 t.k,.int .i64 t.v,.slice A t.args.length c,.slice B t.fs.length d,.int .i64 t.rest]):
  Calls Tryz.prog 13 #[.pointer (some ⟨Q,0,none⟩),.agg #[.int .i64 t.k,.int .i64 t.v,.slice A t.args.length c,.slice B t.fs.length d,.int .i64 t.rest]] w fun e w'=>∃ (A':Option Addr) (c':Nat) (B':Option Addr) (d':Nat),e = .returned (.agg #[.int .i64 (ap s t).k,.int .i64 (ap s t).v,.slice A' (ap s t).args.length c',.slice B' (ap s t).fs.length d',.int .i64 (ap s t).rest])∧
   TyAt w' (fun b=>okW w' b∧w.heap.size≤b) P (ap s t) [.int .i64 (ap s t).k,.int .i64 (ap s t).v,.slice A' (ap s t).args.length c',.slice B' (ap s t).fs.length d',.int .i64 (ap s t).rest]∧SolW w' P Q M0 M1 M2 G R s (seenT t m) ta tb∧Fr [Q] w w':=by
 have f0:=((Fr.refl [] w).alloc (.cells #[.int .i64 t.k,.int .i64 t.v,.slice A t.args.length c,.slice B t.fs.length d,.int .i64 t.rest] 27)).alloc (.cells #[.int .i64 0,.int .i64 0,.slice none 0 0,.slice none 0 0,.int .i64 0] 27)
 have g0:=heap_old (heap_new w (.cells #[.int .i64 t.k,.int .i64 t.v,.slice A t.args.length c,.slice B t.fs.length d,.int .i64 t.rest] 27)) (.cells #[.int .i64 0,.int .i64 0,.slice none 0 0,.slice none 0 0,.int .i64 0] 27)
 have g1:=heap_new (w.alloc (.cells #[.int .i64 t.k,.int .i64 t.v,.slice A t.args.length c,.slice B t.fs.length d,.int .i64 t.rest] 27)) (.cells #[.int .i64 0,.int .i64 0,.slice none 0 0,.slice none 0 0,.int .i64 0] 27)
 rw[World.size_alloc] at g1
 have hQno:¬ okW w Q:=(h.at_.not_ok Q (by simp[solL])).1
 have lt:=lim_of h.few ht wt
 have hQl:=h.at_.lt
 have sh0':Sh w ((w.alloc (.cells #[.int .i64 t.k,.int .i64 t.v,.slice A t.args.length c,.slice B t.fs.length d,.int .i64 t.rest] 27)).alloc (.cells #[.int .i64 0,.int .i64 0,.slice none 0 0,.slice none 0 0,.int .i64 0] 27)) (@okW _ Ex.no w) (@okW _ (exB (w.heap.size+1)) ((w.alloc (.cells #[.int .i64 t.k,.int .i64 t.v,.slice A t.args.length c,.slice B t.fs.length d,.int .i64 t.rest] 27)).alloc (.cells #[.int .i64 0,.int .i64 0,.slice none 0 0,.slice none 0 0,.int .i64 0] 27))):=fun b hb hlt=>by
  obtain⟨⟨cs,TT,f,k1,k2,_⟩,k3,k4⟩:=sh0 f0 b hb hlt
  exact⟨⟨cs,TT,f,k1,k2,fun(c:b=w.heap.size+1)=>by omega⟩,k3,k4⟩
 have hE:=SolAt.sh (E':=(exB (w.heap.size+1))) h.at_ sh0' (fun x hx=>f0.block x ((h.at_.not_ok x hx).2) (fun c=>by cases c))
 have shE:Sh w w (@okW _ Ex.no w) (@okW _ (exB (w.heap.size+1)) w):=fun b hb hlt=>by
  obtain⟨cs,TT,f,k1,k2,_⟩:=hb
  exact⟨⟨cs,TT,f,k1,k2,fun(c:b=w.heap.size+1)=>by omega⟩,rfl,hlt⟩
 have hQnoE:¬ @okW _ (exB (w.heap.size+1)) w Q:=fun⟨cs,TT,f,k1,k2,_⟩=>hQno ⟨cs,TT,f,k1,k2,fun c=>c.elim⟩
 have cS1:=Lib.hid (@seen_all _ (exB (w.heap.size+1)) _ w _ P Q M0 M1 M2 R m ta tb t A B c d (Nat.lt_succ_self _) (f0.mono (fun x hx=>by cases hx)) hQnoE hE lt (ht.keep shE))
 obtain⟨⟨l0,l1,l2,l3,l4⟩,_⟩:=cells5 g0
 have hs0:=lt_of_heap g0
 have H:=Lib.hid h
 have HT:=Lib.hid ht
 have HWT:=Lib.hid wt
 have HQ:=Lib.hid hQno
 have HF0:=Lib.hid f0
 have HG0:=Lib.hid g0
 have HG1:=Lib.hid g1
 clear h ht wt hQno lt f0 g0 g1 sh0' hE shE hQnoE
 obtain⟨Z,hZ⟩:∃ Z,Z=ap s t:=⟨_,rfl⟩
 rw[← hZ]
 have HZZ:=Lib.hid hZ
 clear hZ
 obtain⟨T0,hT0⟩:∃ T0,T0=w.heap.size:=⟨_,rfl⟩
 rw[← hT0]
 have HT0:=Lib.hid hT0
 clear hT0
 go_enter Tryz.func13,Tryz.ntmps13
 go_wp2_with fail
 refine cS1.out.mono ?_
 rintro e w6 ⟨rfl,hS6,f6⟩
 generalize (w.alloc (.cells #[.int .i64 t.k,.int .i64 t.v,.slice A t.args.length c,.slice B t.fs.length d,.int .i64 t.rest] 27)).alloc (.cells #[.int .i64 0,.int .i64 0,.slice none 0 0,.slice none 0 0,.int .i64 0] 27)=x at *
 generalize hW:w.heap.size=T at *
 have hTT:T0=T:=HT0.out
 subst hTT
 have j0:=f6.keep HG0.out (by simp;omega)
 have j1:=f6.keep HG1.out (by simp;omega)
 have F6:=Lib.hid ((HF0.out.mono (L':=[Q]) (fun x hx=>by cases hx)).trans f6)
 have hno:∀ x ∈ [Q],¬ okW w x:=fun x hx=>by simp at hx;subst hx;exact HQ.out
 have hT6:=HT.out.keep (sh_ok F6.out hno)
 have hS6n:@SolAt _ Ex.no w6 P Q M0 M1 M2 R (seenT t m) ta tb:=SolAt.sh hS6 (fun b hb hlt=>by obtain⟨cs,TT,f,k1,k2,_⟩:=hb;exact⟨⟨cs,TT,f,k1,k2,fun c=>c.elim⟩,rfl,hlt⟩) (fun x hx=>rfl)
 have hW6:=H.out.most hS6n
 have HS6:=Lib.hid hS6
 have hx6:=f6.size
 have cA:=Lib.hid (apply_all _ w6 w6 P Q M0 M1 M2 G R s _ ta tb t A B c d (Nat.lt_succ_self _) (Fr.refl [] w6) hW6 HWT.out hT6)
 rw[← HZZ.out] at cA
 have HW6:=Lib.hid hW6
 have HJ1:=Lib.hid j1
 clear l0 l1 l2 l3 l4 hs0 cS1 hS6 hS6n hno hT6 hW6 j1
 obtain⟨⟨l0,l1,l2,l3,l4⟩,_⟩:=cells5 j0
 have hs0:=lt_of_heap j0
 have hs1:=lt_of_heap HJ1.out
 clear f6 j0
 go_wp2_with fail
 refine cA.out.mono ?_
 rintro e w7 ⟨A',c',B',d',rfl,hty,f7⟩
 have j1:=f7.keep HJ1.out (fun x=>by cases x)
 have hfr:=st5_fr w7 (T0+1) (.int .i64 Z.k) (.int .i64 Z.v) (.slice A' Z.args.length c') (.slice B' Z.fs.length d') (.int .i64 Z.rest)
 have hh:=st5_heap j1 (.int .i64 Z.k) (.int .i64 Z.v) (.slice A' Z.args.length c') (.slice B' Z.fs.length d') (.int .i64 Z.rest)
 obtain⟨⟨r0,r1,r2,r3,r4⟩,_⟩:=cells5 hh
 have hS7:=HW6.out.fr f7
 have hs7:=lt_of_heap j1
 obtain⟨⟨k0,k1,k2,k3,k4⟩,y0,y1,y2,y3,y4⟩:=cells5 j1
 have HF7:=Lib.hid (F6.out.trans0 f7)
 have HZ:Hid (@SolAt _ Ex.no (st5 w7 (T0+1) (.int .i64 Z.k) (.int .i64 Z.v) (.slice A' Z.args.length c') (.slice B' Z.fs.length d') (.int .i64 Z.rest)) P Q M0 M1 M2 R (seenT t m) ta tb):=Lib.hid (SolAt.sh HS6.out (fun b hb hlt=>by
  obtain⟨cs,TT,f,k1,k2,k3⟩:=hb
  have hbT:b≠T0+1:=fun e=>k3 e
  have e1:(st5 w7 (T0+1) (.int .i64 Z.k) (.int .i64 Z.v) (.slice A' Z.args.length c') (.slice B' Z.fs.length d') (.int .i64 Z.rest)).heap[b]?=w6.heap[b]?:=(hfr.block b (Nat.lt_of_lt_of_le hlt f7.size) (by simp;exact hbT)).trans (f7.block b hlt (fun c=>by cases c))
  exact⟨⟨cs,TT,f,e1.trans k1,k2,fun c=>c.elim⟩,e1,Nat.lt_of_lt_of_le hlt (Nat.le_trans f7.size hfr.size)⟩) (fun x hx=>by
  have h1:=HW6.out.at_.not_ok x hx
  have hx1:x≠T0+1:=fun e=>by
   subst e
   exact h1.1 ⟨_,_,_,HJ1.out,fun c=>absurd c (by decide),fun c=>c.elim⟩
  exact(hfr.block x (Nat.lt_of_lt_of_le h1.2 f7.size) (by simp;exact hx1)).trans (f7.block x h1.2 (fun c=>by cases c))))
 have HFF:=Lib.hid (HF7.out.step hfr (fun x hx => .inr (by simp at hx;omega)))
 have HTY:Hid (TyAt (st5 w7 (T0+1) (.int .i64 Z.k) (.int .i64 Z.v) (.slice A' Z.args.length c') (.slice B' Z.fs.length d') (.int .i64 Z.rest)) (fun b=>okW (st5 w7 (T0+1) (.int .i64 Z.k) (.int .i64 Z.v) (.slice A' Z.args.length c') (.slice B' Z.fs.length d') (.int .i64 Z.rest)) b∧T0≤b) P Z [.int .i64 Z.k,.int .i64 Z.v,.slice A' Z.args.length c',.slice B' Z.fs.length d',.int .i64 Z.rest]):=Lib.hid (hty.keep (fun b hb hlt=>by
  have h2:=hb.2
  have hx6:=HF0.out.size
  have hn:b ∉ [T0+1]:=by
   have:=lt_of_heap HJ1.out
   simp;omega
  exact⟨⟨okW_fr hfr hb.1 hn hlt,by have:=lt_of_heap HJ1.out;omega⟩,hfr.block b hlt hn,Nat.lt_of_lt_of_le hlt hfr.size⟩))
 have HWZ:=Lib.hid (HW6.out.most HZ.out)
 unfold st5 at r0 r1 r2 r3 r4 HTY HWZ HFF
 clear f7 hty hfr hh hS7 j1 HZ
 go_wp2_with fail
 refine bodyPost_ret (v:=.agg #[.int .i64 Z.k,.int .i64 Z.v,.slice A' Z.args.length c',.slice B' Z.fs.length d',.int .i64 Z.rest]) ?_ rfl ?_
 ·simp[results,Tryz.f13,go_sem,r0,r1,r2,r3,r4]
 ·exact⟨A',c',B',d',rfl,HTY.out,HWZ.out,HFF.out⟩
end
section
variable [LoB]
attribute [local instance] Ex.no
theorem sv_New(w:World)(hlo:LoB.lo≤w.heap.size):Calls Tryz.prog 11 #[] w fun e w'=>∃ Q,e = .returned (.pointer (some ⟨Q,0,none⟩))∧w.heap.size≤Q∧Fr [] w w'∧∀ (G:Ctx)(P:List UInt8→Prop),Pos G→Rise G→Few P→SolW w' P Q none none none G ⟨[],[],[]⟩ .one 0 .zero .zero:=by
 have HF:=Lib.hid ((Fr.refl [] w).alloc (.cells #[.map none,.map none,.map none,.int .i64 0,.int .i64 0,.int .i64 0,.slice none 0 0,.slice none 0 0,.int .i64 0,.int .i64 0,.int .i64 0,.slice none 0 0,.slice none 0 0,.int .i64 0] 58))
 have HG:=Lib.hid (heap_new w (.cells #[.map none,.map none,.map none,.int .i64 0,.int .i64 0,.int .i64 0,.slice none 0 0,.slice none 0 0,.int .i64 0,.int .i64 0,.int .i64 0,.slice none 0 0,.slice none 0 0,.int .i64 0] 58))
 go_enter Tryz.func11,Tryz.ntmps11
 go_wp2_with fail
 go_ret
 refine⟨w.heap.size,rfl,Nat.le_refl _,HF.out,fun G P hp hr hP=>?_⟩
 refine⟨⟨⟨none,0,none,0,none,0,none,0,HG.out,TyAt.zero _ _ _,TyAt.zero _ _ _⟩,.inl ⟨rfl,rfl⟩,.inl ⟨rfl,rfl⟩,.inl ⟨rfl,rfl⟩,fun x h=>(by cases h),fun x h=>(by cases h),hlo⟩,⟨_,_,_,rk_one⟩,rep_one,subOk_one,subWf_one hp hr,rawOk_nil G,hP⟩
end
section
variable [LoB]
attribute [local instance] Ex.no
theorem pargs_zq(W:World):Calls Tryz.prog 48 #[.int .i64 0] W fun e w'=>e = .returned (.int .i64 (-1))∧∃ m,w'=W.drewN m:=by
 go_enter Tryz.func48,Tryz.ntmps48
 go_wp2_with fail
 go_ret
 exact⟨by first|rfl|simp,0,rfl⟩
theorem pmay_none{W:World}{Lb:Nat}:Calls Tryz.prog 34 #[.pointer (some ⟨Lb,0,none⟩),.agg #[.int .i64 0,.int .i64 0,.slice none 0 0,.slice none 0 0,.int .i64 0]] W fun e w'=>e = .returned (.bool false)∧Fr [] W w':=by
 have f0:=((Fr.refl [] W).alloc (.cells #[.pointer (some ⟨Lb,0,none⟩)] 61)).alloc (.cells #[.int .i64 0,.int .i64 0,.slice none 0 0,.slice none 0 0,.int .i64 0] 27)
 have g1:=heap_new (W.alloc (.cells #[.pointer (some ⟨Lb,0,none⟩)] 61)) (.cells #[.int .i64 0,.int .i64 0,.slice none 0 0,.slice none 0 0,.int .i64 0] 27)
 rw[World.size_alloc] at g1
 obtain⟨⟨l0,l1,l2,l3,l4⟩,_⟩:=cells5 g1
 have hgs:=lt_of_heap g1
 have HF:=Lib.hid f0
 clear f0 g1
 go_enter Tryz.func34,Tryz.ntmps34
 go_upto_region 2 with(fail)
 go_quiet ((go_at_call 48;exact Calls.quiet_of (pargs_zq _)))
 go_wp2_with fail
 go_ret
 exact⟨rfl,HF.out.drewN _⟩
theorem pMay_none{w:World}:Calls Tryz.prog 15 #[.agg #[.int .i64 0,.int .i64 0,.slice none 0 0,.slice none 0 0,.int .i64 0]] w fun e w'=>e = .returned (.bool false)∧Fr [] w w':=by
 have f0:=((((Fr.refl [] w).alloc (.cells #[.int .i64 0,.int .i64 0,.slice none 0 0,.slice none 0 0,.int .i64 0] 27)).alloc (.map #[] 0)).alloc (.map #[] 0)).alloc (.cells #[.map (some (w.heap.size+1)),.map (some (w.heap.size+1+1))] 65)
 have g0:=heap_old (heap_old (heap_old (heap_new w (.cells #[.int .i64 0,.int .i64 0,.slice none 0 0,.slice none 0 0,.int .i64 0] 27)) (.map #[] 0)) (.map #[] 0)) (.cells #[.map (some (w.heap.size+1)),.map (some (w.heap.size+1+1))] 65)
 obtain⟨⟨l0,l1,l2,l3,l4⟩,_⟩:=cells5 g0
 have hgs:=lt_of_heap g0
 have k1:=run_make 62 (w.alloc (.cells #[.int .i64 0,.int .i64 0,.slice none 0 0,.slice none 0 0,.int .i64 0] 27))
 have k2:=run_make 63 ((w.alloc (.cells #[.int .i64 0,.int .i64 0,.slice none 0 0,.slice none 0 0,.int .i64 0] 27)).alloc (.map #[] 0))
 rw[World.size_alloc] at k1
 rw[World.size_alloc,World.size_alloc] at k2
 have HF0:=Lib.hid f0
 clear f0 g0
 go_enter Tryz.func15,Tryz.ntmps15
 go_wp2_with fail
 refine pmay_none.mono ?_
 rintro e w6 ⟨rfl,f6⟩
 have HF6:=Lib.hid (HF0.out.trans f6)
 clear f6
 go_wp2_with fail
 go_ret
 exact⟨rfl,HF6.out⟩
theorem unify_det{n n':Nat}{A B:Ab}{a b:TyT}{m:Int}{r r':Int×Ab}(hs:A.s=B.s)(h:Unify n A a b m=some r)(h':Unify n' B a b m=some r'):r=r':=by
 unfold Unify at h h'
 rw[← hs] at h'
 dsimp only at h h'
 split at h
 ·rename_i c
  rw[if_pos c] at h'
  exact Option.some.inj (h.symm.trans h')
 ·rename_i c
  rw[if_neg c] at h'
  exact Option.some.inj ((uni_mono (Nat.le_max_left n n') h).symm.trans (uni_mono (Nat.le_max_right n n') h'))
theorem SolW.up{w:World}{P:List UInt8→Prop}{Q:Nat}{M0 M1 M2:Option Nat}{G G':Ctx}{R:Raw}{s:Sub}{m:Int}{ta tb:TyT}(h:SolW w P Q M0 M1 M2 G R s m ta tb)(l:Le G G')(hs:SubWf G' s):SolW w P Q M0 M1 M2 G' R s m ta tb:=⟨h.at_,h.rk,h.rep,h.so,hs,h.raw.le l,h.few⟩
def PwA:List UInt8→Prop:=fun x=>x=[97]∨x=[98]
theorem few_aw:Few PwA:=fun l hl hP=>by
 have:=nd_len (l:=[[97],[98]]) hl (fun x hx=>by rcases hP x hx with e|e <;> simp[e])
 simp at this;omega
theorem aw_call1{X:World}{Q:Nat}(h:SolW X PwA Q none none none awG ⟨[],[],[]⟩ .one 0 .zero .zero){A B A' B':Option Addr}{c d c' d':Nat}
  (hta:TyAt X (okW X) PwA awA [.int .i64 10,.int .i64 0,.slice A 0 c,.slice B 1 d,.int .i64 1]) (htb:TyAt X (okW X) PwA awB [.int .i64 10,.int .i64 0,.slice A' 0 c',.slice B' 1 d',.int .i64 3]):
  Calls Tryz.prog 12 #[.pointer (some ⟨Q,0,none⟩),.agg #[.int .i64 10,.int .i64 0,.slice A 0 c,.slice B 1 d,.int .i64 1],.agg #[.int .i64 10,.int .i64 0,.slice A' 0 c',.slice B' 1 d',.int .i64 3]] X fun e w'=>e = .returned (.int .i64 0)∧Fr [Q] X w'∧∃ G' M0 M1 M2 R' s ta tb,SolW w' PwA Q M0 M1 M2 G' R' s 4 ta tb∧AOk G' ⟨s,4,ta,tb⟩∧ap s awA=awX∧Le awG G'∧(∀ x ∈ solL Q M0 M1 M2,x=Q∨X.heap.size≤x)∧∀ n r A2,A2.s=s→Unify n A2 (.var 9) awF 9=some r→r.1=26:=by
 have hok:AOk awG ⟨.one,seenT awB (seenT awA 0),awA,awB⟩:=aw_ok
 obtain⟨n,r,hn,hc⟩:=sv_Unify h hok (by rw[aw_seen];decide) hta htb
 refine hc.mono ?_
 rintro e w' ⟨he,hf,hx⟩
 have h1:=aw_unify
 have h2:=aw_again
 cases hu:Unify 20 ⟨.one,3,awA,awB⟩ awA awB 3 with
 | none=>rw[hu] at h1;cases h1
 | some r0 =>
  rw[hu] at h1 h2
  have hr:r=r0:=unify_det rfl hn (show Unify 20 ⟨.one,3,awA,awB⟩ awA awB (seenT awB (seenT awA 0))=some r0 from hu)
  subst hr
  obtain⟨e0,A0⟩:=r
  simp only[Option.map_some,Option.some.injEq,Prod.mk.injEq] at h1
  obtain⟨k1,k2,k3⟩:=h1
  subst k1
  obtain⟨G',M0',M1',M2',R',hS,hA,hL,_⟩:=hx rfl
  obtain⟨s,mo,ta,tb⟩:=A0
  simp only at k2 k3
  subst k2
  refine⟨he,hf,G',M0',M1',M2',R',s,ta,tb,hS.sw,hS.ok,k3,hA.le,fun x hx=>?_,fun n2 r2 A2 hs h3=>?_⟩
  ·rcases hL x hx with c|c
   ·rcases solL_mem.1 c with e|e|e|e
    ·exact .inl e
    ·cases e
    ·cases e
    ·cases e
   ·exact .inr c
  ·simp only[Option.bind_some] at h2
   cases hq:Unify 20 ⟨s,5,awA,awB⟩ (.var 9) awF 9 with
   | none=>rw[hq] at h2;cases h2
   | some q =>
    rw[hq] at h2
    have:=unify_det (B:=⟨s,5,awA,awB⟩) (by rw[hs]) h3 hq
    rw[this]
    simpa using h2
theorem aw_call2{X:World}{Q:Nat}{M0 M1 M2:Option Nat}{G:Ctx}{R:Raw}{s:Sub}{ta tb ta' tb':TyT}(h:SolW X PwA Q M0 M1 M2 G R s 5 ta tb)(hA:AOk G ⟨s,4,ta',tb'⟩)(hr:∀ n r A2,A2.s=s→Unify n A2 (.var 9) awF 9=some r→r.1=26){A B A' B':Option Addr}{c d c' d':Nat}
  (hta:TyAt X (okW X) PwA (.var 9) [.int .i64 1,.int .i64 9,.slice A 0 c,.slice B 0 d,.int .i64 0]) (htb:TyAt X (okW X) PwA awF [.int .i64 7,.int .i64 0,.slice A' 2 c',.slice B' 0 d',.int .i64 0]):
  Calls Tryz.prog 12 #[.pointer (some ⟨Q,0,none⟩),.agg #[.int .i64 1,.int .i64 9,.slice A 0 c,.slice B 0 d,.int .i64 0],.agg #[.int .i64 7,.int .i64 0,.slice A' 2 c',.slice B' 0 d',.int .i64 0]] X fun e w'=>e = .returned (.int .i64 26)∧Fr (solL Q M0 M1 M2) X w':=by
 obtain⟨hle,hup⟩:=aok_up hA (n:=9) (m:=9) (show(4:Int)<9 by decide) (Int.le_refl _)
 have hv:WfT (G.up 9 .ty) (.var 9):=wf_vr _ (by decide) (up_self _ _ _)
 have hF:WfT (G.up 9 .ty) awF:=by
  unfold awF
  rw[WfT]
  exact⟨rfl,fun c=>(by cases c),fun _=>rfl,⟨hv,wf_plain _ rfl (by decide) (by decide),trivial⟩,trivial,by rw[if_neg (by decide)];exact⟨rfl,rfl⟩⟩
 have hS:=h.up hle hup.sw
 have hseen:seenT awF (seenT (.var 9) 5)=9:=rfl
 have hok:AOk (G.up 9 .ty) ⟨s,seenT awF (seenT (.var 9) 5),.var 9,awF⟩:=by rw[hseen];exact aok_ab hup hv hF
 obtain⟨n,r,hn,hc⟩:=sv_Unify hS hok (by rw[hseen];decide) hta htb
 refine hc.mono ?_
 rintro e w' ⟨he,hf,_⟩
 rw[hseen] at hn
 have:=hr n r _ rfl hn
 rw[this] at he
 exact⟨he,hf⟩
end
end
end Go.Proofs.YtoimdiballicnaaGreatDoor
