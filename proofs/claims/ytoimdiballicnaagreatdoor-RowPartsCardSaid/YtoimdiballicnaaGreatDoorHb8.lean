/- A part of the proof: Ka, Kb, Kc, Kd, Ke, Kf, Kg, Kh, Jy, Jr, Ki. -/
import Derived.Deep.DeepCutAuto
import Derived.Lib.SlicesCompact
import Derived.Lib.RowBridge
import Derived.Test.YtoimdiballicnaaGreatDoorShelf
import Derived.Test.YtoimdiballicnaaGreatDoorHb5
import Derived.Test.YtoimdiballicnaaGreatDoorHb6
import Derived.Test.YtoimdiballicnaaGreatDoorHb7
namespace Go.Proofs.YtoimdiballicnaaGreatDoor
open Go.RowKit
set_option linter.all false
set_option maxHeartbeats 16000000
set_option maxRecDepth 100000
section
attribute [local go_sem ↓] Go.wp_at_zero Go.wp_at_succ
section
variable [LoB]
variable [Ex]
section
variable {w w':World} {P:List UInt8→Prop} {Q:Nat} {M0 M1 M2:Option Nat} {G:Ctx} {R:Raw} {A:Ab}
theorem solw_ty(h:SolU w P Q M0 M1 M2 G R A){v:Int}(hv:G v = .ty)(hn:lk v R.tys=none){t:TyT}(wt:WfT G t)(hend:t.k=1→t.v≠v∧lk t.v R.tys=none)(ho:occT v (ap A.s t)=false){M0' M1' M2':Option Nat}(hsz:w.heap.size≤w'.heap.size)(hs:SolAt w' P Q M0' M1' M2' ⟨(v,t)::R.tys,R.prs,R.rws⟩ A.most A.a A.b):
  SolU w' P Q M0' M1' M2' G ⟨(v,t)::R.tys,R.prs,R.rws⟩ (A.put (.tyB v (ap A.s t))).2∧Adv G A G (A.put (.tyB v (ap A.s t))).2:=by
 obtain⟨ra,rb,rc,hk⟩:=h.sw.rk
 have had:=(bindA_adv (A':=(A.put (.tyB v (ap A.s t))).2) (e:=(A.put (.tyB v (ap A.s t))).1) h.ok hv (h.sw.rep.ty0 v hn) (ap_fix h.ok.so t) (ap_wf h.ok.sw wt) (by unfold bindA;rw[if_neg (by rw[ho];simp)])).1
 refine⟨⟨⟨hs,⟨_,_,_,rk_ty hk hend⟩,rep_ty h.sw.rep h.sw.so hn ho,had.ok.so,had.ok.sw,⟨fun u x e=>?_,h.sw.raw.pr,h.sw.raw.rw_⟩,h.sw.few⟩,had.ok,fun b hb=>Nat.lt_of_lt_of_le (h.ex b hb) hsz⟩,had⟩
 dsimp only at e
 rw[lk] at e
 by_cases c:v=u
 ·rw[if_pos c] at e;cases e;exact wt
 ·rw[if_neg c] at e;exact h.sw.raw.ty u x e
theorem solw_pr(h:SolU w P Q M0 M1 M2 G R A){v:Int}(hv:G v = .pr)(hn:lk v R.prs=none){q:Int×Int}(hq:q=(0,0)∨q=(1,0)∨(q.1=2∧1≤q.2∧G q.2 = .pr))(hq2:q.1=2→q.2≠v∧lk q.2 R.prs=none){M0' M1' M2':Option Nat}(hsz:w.heap.size≤w'.heap.size)(hs:SolAt w' P Q M0' M1' M2' ⟨R.tys,(v,q)::R.prs,R.rws⟩ A.most A.a A.b):
  SolU w' P Q M0' M1' M2' G ⟨R.tys,(v,q)::R.prs,R.rws⟩ (A.put (.prB v q)).2∧Adv G A G (A.put (.prB v q)).2:=by
 obtain⟨ra,rb,rc,hk⟩:=h.sw.rk
 have hq3:q.1=2→q.2≠v∧A.s.pr q.2=(2,q.2):=fun c=>⟨(hq2 c).1,h.sw.rep.pr0 _ (hq2 c).2⟩
 have had:=(bd_adv h.ok (prB_bd h.ok hv (h.sw.rep.pr0 v hn) hq hq3)).1
 refine⟨⟨⟨hs,⟨_,_,_,rk_pr hk hq2⟩,rep_pr h.sw.rep hn hq3,had.ok.so,had.ok.sw,⟨h.sw.raw.ty,fun u x e=>?_,h.sw.raw.rw_⟩,h.sw.few⟩,had.ok,fun b hb=>Nat.lt_of_lt_of_le (h.ex b hb) hsz⟩,had⟩
 dsimp only at e
 rw[lk] at e
 by_cases c:v=u
 ·rw[if_pos c] at e;cases e;exact hq
 ·rw[if_neg c] at e;exact h.sw.raw.pr u x e
theorem ri_sd{fs:List Fd}(h:Ri (labs fs)):Sd fs:=by
 unfold Ri labs at h
 rw[List.pairwise_map] at h
 exact h.imp (fun{a b} hab=>ltB_asym hab)
theorem solw_rw(h:SolU w P Q M0 M1 M2 G R A){v k:Int}{L:List (List UInt8)}(hv:G v = .rw k L)(hn:lk v R.rws=none){fs:List Fd}{r:Int}(wf:WfFs G fs)(ro:RowOk G k (· ∈ L) fs r)(hr:A.s.rw r=([],r))(hlr:lk r R.rws=none)(hne:r≠v)(ho:occR v (apRow A.s fs r)=false){M0' M1' M2':Option Nat}(hsz:w.heap.size≤w'.heap.size)(hs:SolAt w' P Q M0' M1' M2' ⟨R.tys,R.prs,(v,(fs,r))::R.rws⟩ A.most A.a A.b):
  SolU w' P Q M0' M1' M2' G ⟨R.tys,R.prs,(v,(fs,r))::R.rws⟩ (A.put (.rwB v (apRow A.s fs r))).2∧Adv G A G (A.put (.rwB v (apRow A.s fs r))).2:=by
 obtain⟨ra,rb,rc,hk⟩:=h.sw.rk
 have hv0:v≠0:=fun e=>by have:=h.ok.pos v (by rw[hv];simp);omega
 have had:=(restA_adv (A':=(A.put (.rwB v (apRow A.s fs r))).2) (e:=(A.put (.rwB v (apRow A.s fs r))).1) h.ok hv (h.sw.rep.rw0 v hn) wf ro (by unfold restA;rw[if_neg (by rw[ho];simp)])).1
 refine⟨⟨⟨hs,⟨_,_,_,rk_rw hk hne hlr⟩,rep_rw h.sw.rep h.sw.so hv0 hn ho (ri_sd ro.1) hr hne,had.ok.so,had.ok.sw,⟨h.sw.raw.ty,h.sw.raw.pr,fun u x e=>?_⟩,h.sw.few⟩,had.ok,fun b hb=>Nat.lt_of_lt_of_le (h.ex b hb) hsz⟩,had⟩
 dsimp only at e
 rw[lk] at e
 by_cases c:v=u
 ·rw[if_pos c] at e;cases e;subst c;exact⟨k,L,hv,wf,ro⟩
 ·rw[if_neg c] at e;exact h.sw.raw.rw_ u x e
end
theorem sv_bind{w:World}{P:List UInt8→Prop}{Q:Nat}{M0 M1 M2:Option Nat}{G:Ctx}{R:Raw}{A:Ab}(h:SolU w P Q M0 M1 M2 G R A){v:Int}(hv:G v = .ty)(hn:lk v R.tys=none){t:TyT}(wt:WfT G t)(hend:t.k=1→t.v≠v∧lk t.v R.tys=none){B1 B2:Option Addr}{c d:Nat}
  (ht:TyAt w (okW w) P t [.int .i64 t.k,.int .i64 t.v,.slice B1 t.args.length c,.slice B2 t.fs.length d,.int .i64 t.rest]):
  Calls Tryz.prog 45 #[.pointer (some ⟨Q,0,none⟩),.int .i64 v,.agg #[.int .i64 t.k,.int .i64 t.v,.slice B1 t.args.length c,.slice B2 t.fs.length d,.int .i64 t.rest]] w (UR w P Q M0 M1 M2 G A (bindA A v (ap A.s t))):=by
 have f0:=(Fr.refl [] w).alloc (.cells #[.int .i64 t.k,.int .i64 t.v,.slice B1 t.args.length c,.slice B2 t.fs.length d,.int .i64 t.rest] 27)
 have g0:=heap_new w (.cells #[.int .i64 t.k,.int .i64 t.v,.slice B1 t.args.length c,.slice B2 t.fs.length d,.int .i64 t.rest] 27)
 have cW:=Lib.hid (within_all _ w _ P Q M0 M1 M2 G R A.s A.most A.a A.b t B1 B2 c d v (Nat.lt_succ_self _) f0 h.sw wt ht)
 have H:=Lib.hid h
 have HV:=Lib.hid hv
 have HN:=Lib.hid hn
 have HWT:=Lib.hid wt
 have HEN:=Lib.hid hend
 have HT:=Lib.hid ht
 have F0:=Lib.hid f0
 have hq:=h.sw.at_.lt
 have hsg:=lt_of_heap g0
 obtain⟨⟨l0,l1,l2,l3,l4⟩,_⟩:=cells5 g0
 clear h hv hn wt hend ht f0
 go_enter Tryz.func45,Tryz.ntmps45
 go_wp2_with fail
 refine cW.out.mono ?_
 rintro e w1 ⟨rfl,f1⟩
 have hG1:=f1.keep g0 (fun x=>by cases x)
 have F1:=Lib.hid (F0.out.trans f1)
 clear l0 l1 l2 l3 l4 g0 hsg cW f1
 obtain⟨⟨l0,l1,l2,l3,l4⟩,_⟩:=cells5 hG1
 have hsg:=lt_of_heap hG1
 cases ho:occT v (ap A.s t)with
 | true =>
  have HO:=Lib.hid ho
  clear ho
  go_wp2_with fail
  go_ret
  unfold bindA
  rw[if_pos HO.out]
  exact .stay H.out F1.out 26
 | false =>
  have HO:=Lib.hid ho
  have h1:=H.out.fr F1.out
  have hq1:=h1.sw.at_.lt
  have cS:=Lib.hid (setT_sol (h1.fr ((Fr.refl [] w1).drew)).sw.at_ HN.out (HT.out.keep (sh0 F1.out.drew)))
  clear ho h1
  go_wp2_with fail
  go_region_held3 (fun w'=>w'.cell? ⟨w.heap.size,0,none⟩=some (.int .i64 t.k)∧w'.cell? ⟨w.heap.size,1,none⟩=some (.int .i64 t.v)∧w'.cell? ⟨w.heap.size,2,none⟩=some (.slice B1 t.args.length c)∧w'.cell? ⟨w.heap.size,3,none⟩=some (.slice B2 t.fs.length d)∧w'.cell? ⟨w.heap.size,4,none⟩=some (.int .i64 t.rest)) (first|go_keep|exact MM)
   ((first|((with_reducible refine cS.out.mono ?_);rintro e2 w2 ⟨rfl,m',hS2,f2,hor⟩;have hG2:=f2.keep (w:=w1.drew) hG1 (fun hx=>absurd (((H.out.sw.at_.not_ok _ hx).2)) (by omega));have MM:=(cells5 hG2).1)))
  all_goals
   obtain⟨hU,hA⟩:=solw_ty H.out HV.out HN.out HWT.out HEN.out HO.out (by have h1:=F1.out.size;have h2:=f2.size;have h3:w1.drew.heap.size=w1.heap.size:=rfl;omega) hS2
   have cG:=Lib.hid (sv_grown (Fr.refl [] w2) hU.sw hU.ok.wa hU.ok.wb)
   have HU:=Lib.hid hU
   have HA:=Lib.hid hA
   have HF2:=Lib.hid ((F1.out.drew.mono (fun x hx=>by cases hx)).trans (show Fr (solL Q M0 M1 M2) w1.drew w2 from f2))
   have HOR:=Lib.hid hor
   clear hS2 f2 hor hU hA hG2 MM l0 l1 l2 l3 l4 cS
   go_wp2_with fail
   refine cG.out.mono ?_
   rintro e3 w3 ⟨rfl,f3⟩
   go_wp2_with fail
   go_ret
   unfold bindA
   rw[if_neg (by rw[HO.out];simp)]
   refine⟨rfl,HF2.out.trans0 f3,fun _=>⟨G,some m',M1,M2,_,HU.out.fr f3,HA.out,fun x hx=>?_,Int.add_le_add (Int.le_refl _) (Int.ofNat_le.2 HA.out.cnt)⟩⟩
   rcases solL_mem.1 hx with e|e|e|e
   ·exact .inl (solL_mem.2 (.inl e))
   ·injection e with e
    subst e
    rcases HOR.out with e|e
    ·exact .inl (solL_mem.2 (.inr (.inl e)))
    ·have:=F1.out.size
     exact .inr (Nat.le_trans this e)
   ·exact .inl (solL_mem.2 (.inr (.inr (.inl e))))
   ·exact .inl (solL_mem.2 (.inr (.inr (.inr e))))
end
section
variable [LoB]
variable [Ex]
theorem sv_there1{w:World}{P:List UInt8→Prop}{Q:Nat}{M0 M1 M2:Option Nat}{G:Ctx}{R:Raw}{A:Ab}(h:SolU w P Q M0 M1 M2 G R A){v:Int}(hv:G v = .pr)(hn:lk v R.prs=none){q:Int×Int}(hq:q=(0,0)∨q=(1,0)∨(q.1=2∧1≤q.2∧G q.2 = .pr))(hq2:q.1=2→q.2≠v∧lk q.2 R.prs=none):
  Calls Tryz.prog 91 #[.pointer (some ⟨Q,0,none⟩),.int .i64 v,.agg #[.int .i64 q.1,.int .i64 q.2]] w (UR w P Q M0 M1 M2 G A (A.put (.prB v q))):=by
 have f0:=(Fr.refl [] w).alloc (.cells #[.int .i64 q.1,.int .i64 q.2] 136)
 have g0:=heap_new w (.cells #[.int .i64 q.1,.int .i64 q.2] 136)
 have H:=Lib.hid h
 have HV:=Lib.hid hv
 have HN:=Lib.hid hn
 have HQ:=Lib.hid hq
 have HQ2:=Lib.hid hq2
 have F0:=Lib.hid f0
 have hqs:=h.sw.at_.lt
 have hsg:=lt_of_heap g0
 obtain⟨⟨l0,l1⟩,_⟩:=cells2 g0
 have h1:=h.fr f0
 have hq1:=h1.sw.at_.lt
 have cS:=Lib.hid (setP_sol (h1.fr ((Fr.refl [] _).drew)).sw.at_ hn q)
 clear h hv hn hq hq2 f0 h1
 go_enter Tryz.func91,Tryz.ntmps91
 go_wp2_with fail
 generalize w.alloc (.cells #[.int .i64 q.1,.int .i64 q.2] 136)=w1 at *
 go_region_held3 (fun w'=>w'.cell? ⟨w.heap.size,0,none⟩=some (.int .i64 q.1)∧w'.cell? ⟨w.heap.size,1,none⟩=some (.int .i64 q.2)) (first|go_keep|exact MM)
  ((first|((with_reducible refine cS.out.mono ?_);rintro e2 w2 ⟨rfl,m',hS2,f2,hor⟩;have hG2:=f2.keep (w:=w1.drew) g0 (fun hx=>absurd (((H.out.sw.at_.not_ok _ hx).2)) (by omega));have MM:=(cells2 hG2).1)))
 all_goals
  obtain⟨hU,hA⟩:=solw_pr H.out HV.out HN.out HQ.out HQ2.out (by have h1:=F0.out.size;have h2:=f2.size;have h3:w1.drew.heap.size=w1.heap.size:=rfl;omega) hS2
  have cG:=Lib.hid (sv_grown (Fr.refl [] w2) hU.sw hU.ok.wa hU.ok.wb)
  have HU:=Lib.hid hU
  have HA:=Lib.hid hA
  have HF2:=Lib.hid ((F0.out.drew.mono (fun x hx=>by cases hx)).trans (show Fr (solL Q M0 M1 M2) w1.drew w2 from f2))
  have HOR:=Lib.hid hor
  clear hS2 f2 hor hU hA hG2 MM l0 l1 cS
  go_wp2_with fail
  refine cG.out.mono ?_
  rintro e3 w3 ⟨rfl,f3⟩
  go_wp2_with fail
  go_ret
  refine⟨rfl,HF2.out.trans0 f3,fun _=>⟨G,M0,some m',M2,_,HU.out.fr f3,HA.out,fun x hx=>?_,Int.add_le_add (Int.le_refl _) (Int.ofNat_le.2 HA.out.cnt)⟩⟩
  rcases solL_mem.1 hx with e|e|e|e
  ·exact .inl (solL_mem.2 (.inl e))
  ·exact .inl (solL_mem.2 (.inr (.inl e)))
  ·injection e with e
   subst e
   rcases HOR.out with e|e
   ·exact .inl (solL_mem.2 (.inr (.inr (.inl e))))
   ·have:=F0.out.size
    exact .inr (Nat.le_trans this e)
  ·exact .inl (solL_mem.2 (.inr (.inr (.inr e))))
theorem sv_rest{w:World}{P:List UInt8→Prop}{Q:Nat}{M0 M1 M2:Option Nat}{G:Ctx}{R:Raw}{A:Ab}(h:SolU w P Q M0 M1 M2 G R A){v k:Int}{L:List (List UInt8)}(hv:G v = .rw k L)(hn:lk v R.rws=none){fs:List Fd}{r:Int}(wf:WfFs G fs)(ro:RowOk G k (· ∈ L) fs r)(hr:A.s.rw r=([],r))(hlr:lk r R.rws=none)(hne:r≠v)
  {B:Option Addr} {d:Nat} (hfs:FsAt w (okW w) P (.slice B fs.length d) fs):
  Calls Tryz.prog 92 #[.pointer (some ⟨Q,0,none⟩),.int .i64 v,.agg #[.slice B fs.length d,.int .i64 r]] w (UR w P Q M0 M1 M2 G A (restA A v fs r)):=by
 obtain⟨Lr,e,hL,hR⟩:=h.sw.row wf ro hfs
 have f0:=(Fr.refl [] w).alloc (.cells #[.slice B fs.length d,.int .i64 r] 25)
 have g0:=heap_new w (.cells #[.slice B fs.length d,.int .i64 r] 25)
 have cR:=Lib.hid (hR _ f0)
 have hoc:occR v (apRow A.s fs r)=(e==v||occFs v (apFs A.s Lr)):=by unfold occR;rw[hL.same,hL.end_]
 have HOC:=Lib.hid hoc
 have HL:=Lib.hid hL
 have HWL:=Lib.hid ((wfFs_iff G Lr).1 hL.wf)
 have H:=Lib.hid h
 have HV:=Lib.hid hv
 have HN:=Lib.hid hn
 have HWF:=Lib.hid wf
 have HRO:=Lib.hid ro
 have HRR:=Lib.hid hr
 have HLR:=Lib.hid hlr
 have HNE:=Lib.hid hne
 have HFS:=Lib.hid hfs
 have F0:=Lib.hid f0
 have hq:=h.sw.at_.lt
 have hsg:=lt_of_heap g0
 obtain⟨⟨l0,l1⟩,_⟩:=cells2 g0
 clear h hv hn wf ro hr hlr hne hfs f0 hR hL hoc
 go_enter Tryz.func92,Tryz.ntmps92
 go_wp2_with fail
 refine cR.out.mono ?_
 rintro e0 w0 ⟨l',A2,c2,rfl,hmap,hrow,f1⟩
 have F1:=Lib.hid (F0.out.trans f1)
 have hG0:=f1.keep g0 (fun x=>by cases x)
 have hlen:l'.length≤1099511627776:=by
  have h1:=congrArg List.length hmap
  rw[List.length_map] at h1
  have h2:=HL.out.len
  omega
 have hm:∀ x ∈ l',x.fd ∈ Lr:=fun x hx=>by rw[← hmap];exact List.mem_map_of_mem hx
 have cW:=Lib.hid (sv_withinRow (N:=szFs (apFs A.s Lr)) (e:=e) (within_all _) H.out.sw v F1.out (show RowV w P w0 l' A2 c2 _ from hrow) hlen (fun x hx h0=>szFs_lt (hm x hx) (HL.out.fix _ (hm x hx)) h0) (fun x hx=>HWL.out _ (hm x hx)) (fun x hx=>HL.out.fix _ (hm x hx)))
 rw[hmap,← HOC.out] at cW
 clear l0 l1 g0 hsg cR f1 hrow hlen hm hmap
 go_wp2_with fail
 refine cW.out.mono ?_
 rintro e1 w1 ⟨rfl,f2⟩
 have hG1:=f2.keep hG0 (fun x=>by cases x)
 have F2:=Lib.hid (F1.out.trans f2)
 clear cW f2 hG0
 obtain⟨⟨l0,l1⟩,_⟩:=cells2 hG1
 have hsg:=lt_of_heap hG1
 cases ho:occR v (apRow A.s fs r)with
 | true =>
  have HO:=Lib.hid ho
  clear ho
  go_wp2_with fail
  go_ret
  unfold restA
  rw[if_pos HO.out]
  exact .stay H.out F2.out 26
 | false =>
  have HO:=Lib.hid ho
  have h1:=H.out.fr F2.out
  have hq1:=h1.sw.at_.lt
  have cS:=Lib.hid (setR_sol (h1.fr ((Fr.refl [] w1).drew)).sw.at_ HN.out (r:=r) (HFS.out.keep (sh0 F2.out.drew)))
  clear ho h1
  go_wp2_with fail
  go_region_held3 (fun w'=>w'.cell? ⟨w.heap.size,0,none⟩=some (.slice B fs.length d)∧w'.cell? ⟨w.heap.size,1,none⟩=some (.int .i64 r)) (first|go_keep|exact MM)
   ((first|((with_reducible refine cS.out.mono ?_);rintro e2 w2 ⟨rfl,m',hS2,f2,hor⟩;have hG2:=f2.keep (w:=w1.drew) hG1 (fun hx=>absurd (((H.out.sw.at_.not_ok _ hx).2)) (by omega));have MM:=(cells2 hG2).1)))
  all_goals
   obtain⟨hU,hA⟩:=solw_rw H.out HV.out HN.out HWF.out HRO.out HRR.out HLR.out HNE.out HO.out (by have h1:=F2.out.size;have h2:=f2.size;have h3:w1.drew.heap.size=w1.heap.size:=rfl;omega) hS2
   have cG:=Lib.hid (sv_grown (Fr.refl [] w2) hU.sw hU.ok.wa hU.ok.wb)
   have HU:=Lib.hid hU
   have HA:=Lib.hid hA
   have HF2:=Lib.hid ((F2.out.drew.mono (fun x hx=>by cases hx)).trans (show Fr (solL Q M0 M1 M2) w1.drew w2 from f2))
   have HOR:=Lib.hid hor
   clear hS2 f2 hor hU hA hG2 MM l0 l1 cS
   go_wp2_with fail
   refine cG.out.mono ?_
   rintro e3 w3 ⟨rfl,f3⟩
   go_wp2_with fail
   go_ret
   unfold restA
   rw[if_neg (by rw[HO.out];simp)]
   refine⟨rfl,HF2.out.trans0 f3,fun _=>⟨G,M0,M1,some m',_,HU.out.fr f3,HA.out,fun x hx=>?_,Int.add_le_add (Int.le_refl _) (Int.ofNat_le.2 HA.out.cnt)⟩⟩
   rcases solL_mem.1 hx with e|e|e|e
   ·exact .inl (solL_mem.2 (.inl e))
   ·exact .inl (solL_mem.2 (.inr (.inl e)))
   ·exact .inl (solL_mem.2 (.inr (.inr (.inl e))))
   ·injection e with e
    subst e
    rcases HOR.out with e|e
    ·exact .inl (solL_mem.2 (.inr (.inr (.inr e))))
    ·have:=F2.out.size
     exact .inr (Nat.le_trans this e)
theorem sv_told{w W:World}(hW:Fr [] w W){P:List UInt8→Prop}{Q:Nat}{M0 M1 M2:Option Nat}{R:Raw}{m:Int}{ta tb:TyT}(h:SolAt w P Q M0 M1 M2 R m ta tb)(v:Int):
  Calls Tryz.prog 69 #[.pointer (some ⟨Q,0,none⟩),.int .i64 v] W fun e w'=>e = .returned (.bool (decide (0<v)&&(lk v R.rws).isSome))∧Fr [] W w':=by
 have hq:=Nat.lt_of_lt_of_le h.lt hW.size
 have F:=Lib.hid (Fr.refl [] W)
 cases hl:lk v R.rws with
 | none =>
  have cG:=Lib.hid (h.lookR_no hl W hW)
  clear h hW hl
  by_cases hv:0<v
  ·go_enter Tryz.func69,Tryz.ntmps69
   go_wp2_with fail
   refine cG.out.mono ?_
   rintro e w1 ⟨rfl,f1⟩
   go_wp2_with fail
   go_ret
   exact⟨by first|rfl|simp[hv],by(repeat(first|with_reducible refine Fr.setCell ?_ (.inr (by first|simp;done|(simp;omega))) _|with_reducible refine Fr.alloc ?_ _|with_reducible refine Fr.drew ?_|with_reducible exact f1))⟩
  ·go_enter Tryz.func69,Tryz.ntmps69
   go_wp2_with fail
   refine cG.out.mono ?_
   rintro e w1 ⟨rfl,f1⟩
   go_wp2_with fail
   go_ret
   exact⟨by first|rfl|simp[hv],by(repeat(first|with_reducible refine Fr.setCell ?_ (.inr (by first|simp;done|(simp;omega))) _|with_reducible refine Fr.alloc ?_ _|with_reducible refine Fr.drew ?_|with_reducible exact f1))⟩
 | some q =>
  obtain⟨B,d,_,hG⟩:=h.lookR_is hl
  have cG:=Lib.hid (hG W hW)
  clear h hW hl hG
  by_cases hv:0<v
  ·go_enter Tryz.func69,Tryz.ntmps69
   go_wp2_with fail
   refine cG.out.mono ?_
   rintro e w1 ⟨rfl,f1⟩
   go_wp2_with fail
   go_ret
   exact⟨by first|rfl|simp[hv],by(repeat(first|with_reducible refine Fr.setCell ?_ (.inr (by first|simp;done|(simp;omega))) _|with_reducible refine Fr.alloc ?_ _|with_reducible refine Fr.drew ?_|with_reducible exact f1))⟩
  ·go_enter Tryz.func69,Tryz.ntmps69
   go_wp2_with fail
   refine cG.out.mono ?_
   rintro e w1 ⟨rfl,f1⟩
   go_wp2_with fail
   go_ret
   exact⟨by first|rfl|simp[hv],by(repeat(first|with_reducible refine Fr.setCell ?_ (.inr (by first|simp;done|(simp;omega))) _|with_reducible refine Fr.alloc ?_ _|with_reducible refine Fr.drew ?_|with_reducible exact f1))⟩
end
section
variable [LoB]
variable [Ex]
section
variable {w w' w1 w2:World} {P:List UInt8→Prop} {Q:Nat} {M0 M1 M2 N0 N1 N2:Option Nat} {G G1:Ctx} {R:Raw} {A A1 A2:Ab}
theorem Nx.trans(had:Adv G A G1 A1)(hn:∀ x ∈ solL Q N0 N1 N2,x ∈ solL Q M0 M1 M2∨w.heap.size≤x)(hs:w.heap.size≤w1.heap.size)(hm:A1.most+cnt A1≤A.most+cnt A)(k:Nx w1 P Q N0 N1 N2 G1 A1 A2 w2):Nx w P Q M0 M1 M2 G A A2 w2:=by
 obtain⟨G',M0',M1',M2',R',h1,h2,h3,h4⟩:=k
 refine⟨G',M0',M1',M2',R',h1,had.trans h2,fun x hx=>?_,Int.le_trans h4 hm⟩
 rcases h3 x hx with c|c
 ·exact hn x c
 ·exact .inr (by omega)
theorem UR.after{r:Int×Ab}{e:Ending}(had:Adv G A G1 A1)(hf:Fr (solL Q M0 M1 M2) w w1)(hn:∀ x ∈ solL Q N0 N1 N2,x ∈ solL Q M0 M1 M2∨w.heap.size≤x)(hm:A1.most+cnt A1≤A.most+cnt A)(k:UR w1 P Q N0 N1 N2 G1 A1 r e w2):UR w P Q M0 M1 M2 G A r e w2 :=
 ⟨k.1,hf.step k.2.1 hn,fun c=>Nx.trans had hn hf.size hm (k.2.2 c)⟩
theorem UR.at0{r:Int×Ab}{e:Ending}(hf:Fr [] w w1)(hok:AOk G A)(k:UR w1 P Q M0 M1 M2 G A r e w2):UR w P Q M0 M1 M2 G A r e w2 :=
 UR.after (.refl hok) (hf.mono (fun x hx=>by cases hx)) (fun x hx => .inl hx) (Int.le_refl _) k
theorem told_eq(h:SolU w P Q M0 M1 M2 G R A)(v:Int):(decide (0<v)&&(lk v R.rws).isSome)=told A v:=by
 unfold told
 cases hl:lk v R.rws with
 | none =>
  rw[h.sw.rep.rw0 v hl];simp
 | some q =>
  by_cases hv:0<v
  ·obtain⟨ra,rb,rc,hk⟩:=h.sw.rk
   obtain⟨l,e,hc⟩:=chain_ex hk (rc v+1) v (fun _=>Nat.lt_succ_self _)
   have h1:=(hc.same h.sw.rep h.sw.so.ok).1
   have hev:e≠v:=by
    rcases hc.k with⟨c,_,_⟩| ⟨q',l',h0,hq,hr,_⟩
    ·rcases c with c|c
     ·omega
     ·rw[hl] at c;cases c
    ·intro he
     subst he
     -- the end of a chain is unbound or none
     have:∀ {r e:Int} {l:List Fd},ChainR R r l e→e=0∨lk e R.rws=none:=fun hc=>by
      induction hc with
      | stop h=>exact h
      | go _ _ _ ih=>exact ih
     rcases this hr with c|c
     ·omega
     ·rw[hl] at c;cases c
   rw[h1];simp[hv,hev]
  ·simp[hv]
end
theorem sv_absent{w:World}{P:List UInt8→Prop}{Q:Nat}{M0 M1 M2:Option Nat}{G:Ctx}{R:Raw}{A:Ab}(h:SolU w P Q M0 M1 M2 G R A){f:Fd}(wf:WfF G f){B1 B2:Option Addr}{c d:Nat}
  (ht:TyAt w (okW w) P f.t [.int .i64 f.t.k,.int .i64 f.t.v,.slice B1 f.t.args.length c,.slice B2 f.t.fs.length d,.int .i64 f.t.rest]):
  Calls Tryz.prog 68 #[.pointer (some ⟨Q,0,none⟩),.agg #[.string ⟨f.lb.toArray⟩,.int .i64 f.pr,.int .i64 f.p,.int .i64 f.t.k,.int .i64 f.t.v,.slice B1 f.t.args.length c,.slice B2 f.t.fs.length d,.int .i64 f.t.rest]] w (UR w P Q M0 M1 M2 G A (absA A f)):=by
 obtain⟨ra,rb,rc,hk⟩:=h.sw.rk
 obtain⟨y,hy⟩:=there_ex hk (rb f.p+1) (f.pr,f.p) (fun _ _=>Nat.lt_succ_self _)
 have hyp:y=pre A.s f:=hy.end_ h.sw.rep
 have hpw:=pre_wf h.ok wf
 rw[← hyp] at hpw
 have habs:absA A f=if y.1=1 then (25,A)else if y.1=2 then A.put (.prB y.2 (0,0))else (0,A):=by unfold absA;rw[apF_pr,apF_p,← hyp]
 have f0:=(Fr.refl [] w).alloc (.cells #[.string ⟨f.lb.toArray⟩,.int .i64 f.pr,.int .i64 f.p,.int .i64 f.t.k,.int .i64 f.t.v,.slice B1 f.t.args.length c,.slice B2 f.t.fs.length d,.int .i64 f.t.rest] 44)
 have g0:=heap_new w (.cells #[.string ⟨f.lb.toArray⟩,.int .i64 f.pr,.int .i64 f.p,.int .i64 f.t.k,.int .i64 f.t.v,.slice B1 f.t.args.length c,.slice B2 f.t.fs.length d,.int .i64 f.t.rest] 44)
 have cT:=Lib.hid (sv_there f0 h.sw.at_ hk hy ht)
 have hlk:y.1=2→lk y.2 R.prs=none:=fun c=>by
  have:=hy.k
  clear cT
  have key:∀ {q z:Int×Int},ThereR R q z→z.1=2→lk z.2 R.prs=none:=fun hc=>by
   induction hc with
   | not h=>exact fun c=>absurd c h
   | free _ h=>exact fun _=>h
   | go _ _ _ ih=>exact ih
  exact key hy c
 have H:=Lib.hid h
 have HPW:=Lib.hid hpw
 have HAB:=Lib.hid habs
 have HLK:=Lib.hid hlk
 have F0:=Lib.hid f0
 have hq:=h.sw.at_.lt
 have hsg:=lt_of_heap g0
 obtain⟨⟨l0,l1,l2,l3,l4,l5,l6,l7⟩,_⟩:=cells8 g0
 clear h wf ht hk hy hyp hpw habs hlk f0
 go_enter Tryz.func68,Tryz.ntmps68
 go_wp2_with fail
 refine cT.out.mono ?_
 rintro e w1 ⟨A',c',B',d',rfl,hty,f1⟩
 have hG1:=f1.keep g0 (fun x=>by cases x)
 have hF1:=F0.out.trans f1
 have F1:=Lib.hid hF1
 clear l0 l1 l2 l3 l4 l5 l6 l7 g0 hsg cT f1 hty
 obtain⟨⟨l0,l1,l2,l3,l4,l5,l6,l7⟩,z0,z1,z2,z3,z4,z5,z6,z7⟩:=cells8 hG1
 have hsg:=lt_of_heap hG1
 by_cases h1:y.1=1
 ·have t1:(y.1==1)=true:=by simp[h1]
  have HF:Hid (absA A f=(25,A)):=Lib.hid (by rw[HAB.out,if_pos h1])
  clear h1
  go_wp2_with fail
  go_ret
  rw[HF.out]
  exact .stay H.out (by(repeat(first|with_reducible refine Fr.setCell ?_ (.inr (by first|simp;done|(simp;omega))) _|with_reducible refine Fr.alloc ?_ _|with_reducible refine Fr.drew ?_|with_reducible exact F1.out))) 25
 ·have t1:(y.1==1)=false:=beq_eq_false_iff_ne.2 h1
  by_cases h2:y.1=2
  ·have t2:(y.1==2)=true:=by simp[h2]
   have HF:Hid (absA A f=A.put (.prB y.2 (0,0))):=Lib.hid (by rw[HAB.out,if_neg h1,if_pos h2])
   have hpp:G y.2 = .pr:=by
    rcases HPW.out with c|c|⟨_,_,c,_⟩
    ·rw[c] at h2;exact absurd h2 (by decide)
    ·rw[c] at h2;exact absurd h2 (by decide)
    ·exact c
   have cU:=fun X (hX:Fr [] w X)=>Lib.hid (sv_there1 (H.out.fr hX) hpp (HLK.out h2) (q:=(0,0)) (.inl rfl) (fun c=>by cases c))
   clear h1 h2 hpp
   go_wp2_with fail
   refine(cU _ (by(repeat(first|with_reducible refine Fr.setCell ?_ (.inr (by first|simp;done|(simp;omega))) _|with_reducible refine Fr.alloc ?_ _|with_reducible refine Fr.drew ?_|with_reducible exact F1.out)))).out.mono ?_
   rintro e2 w2 hu
   obtain⟨rfl,hu2⟩:=hu
   have HU:=Lib.hid hu2
   clear hu2 cU
   go_wp2_with fail
   go_ret
   rw[HF.out]
   exact UR.at0 (by(repeat(first|with_reducible refine Fr.setCell ?_ (.inr (by first|simp;done|(simp;omega))) _|with_reducible refine Fr.alloc ?_ _|with_reducible refine Fr.drew ?_|with_reducible exact F1.out))) H.out.ok ⟨rfl,HU.out⟩
  ·have t2:(y.1==2)=false:=beq_eq_false_iff_ne.2 h2
   have HF:Hid (absA A f=(0,A)):=Lib.hid (by rw[HAB.out,if_neg h1,if_neg h2])
   clear h1 h2
   go_wp2_with fail
   go_ret
   rw[HF.out]
   exact .stay H.out (by(repeat(first|with_reducible refine Fr.setCell ?_ (.inr (by first|simp;done|(simp;omega))) _|with_reducible refine Fr.alloc ?_ _|with_reducible refine Fr.drew ?_|with_reducible exact F1.out))) 0
theorem sv_at1(x:FdM)(lab:List UInt8){b:Nat}{W:World}(hb:W.heap[b]?=some (.cells #[.string ⟨lab.toArray⟩] 9 (0,0))):Calls Tryz.prog 90 (#[.agg (encF x).toArray] ++ #[.pointer (some ⟨b,0,none⟩)]) W fun e w'=>e = .returned (.bool (x.fd.lb==lab))∧Fr [] W w':=by
 show Calls Tryz.prog 90 #[.agg #[.string ⟨x.fd.lb.toArray⟩,.int .i64 x.fd.pr,.int .i64 x.fd.p,.int .i64 x.fd.t.k,.int .i64 x.fd.t.v,.slice x.A x.fd.t.args.length x.c,.slice x.B x.fd.t.fs.length x.d,.int .i64 x.fd.t.rest],.pointer (some ⟨b,0,none⟩)] W _
 have c0:=wic_cells hb
 have l0:=lt_of_heap hb
 have HF:=Lib.hid (Fr.refl [] W)
 clear hb
 go_enter Tryz.func90,Tryz.ntmps90
 go_wp2_with fail
 go_ret
 exact⟨by first|rfl|simp,by(repeat(first|with_reducible refine Fr.setCell ?_ (.inr (by first|simp;done|(simp;omega))) _|with_reducible refine Fr.alloc ?_ _|with_reducible refine Fr.drew ?_|with_reducible exact HF.out))⟩
theorem sv_at{w W:World}{P:List UInt8→Prop}{l:List FdM}{A:Option Addr}{c base:Nat}(h:RowV w P W l A c base)(hl:l.length≤1099511627776)(lab:List UInt8):
  Calls Tryz.prog 66 #[.slice A l.length c,.string ⟨lab.toArray⟩] W fun e w'=>e = .returned (.int .i64 (fIx (fun x=>x.fd.lb==lab) l 0))∧Fr [] W w':=by
 have f0:=(Fr.refl [] W).alloc (.cells #[.string ⟨lab.toArray⟩] 9)
 have g0:=heap_new W (.cells #[.string ⟨lab.toArray⟩] 9)
 have hmf:∀ (fn:Fn) (first cap:Array Value) (w:World),(Instr.makeFunc fn first cap).run Tryz.prog w = .ok (.func fn first cap) w:=fun _ _ _ _=>rfl
 have F0:=Lib.hid f0
 rcases h with⟨rfl,rfl,rfl⟩| ⟨g,rfl,_,hrm,_⟩
 ·have cN:=fun fv X=>Lib.hid (sv_index_none none 0 fv X)
  clear f0 g0
  go_enter Tryz.func66,Tryz.ntmps66
  go_wp2_with fail
  refine(cN _ _).out.mono ?_
  rintro e1 w1 ⟨rfl,rfl⟩
  go_wp2_with fail
  go_ret
  exact⟨by first|rfl|simp[fIx],F0.out⟩
 ·have eg:∀ args w,(callFunc 90 args).run Tryz.prog w = .ok (.enter 90 args) w:=enters_of Tryz.func90 (by kernel_rfl) rfl
  have cF:=Lib.hid (sv_index (cap:=c) (hrm.keep f0 (fun x=>by cases x)) hl (fun x=>x.fd.lb==lab) 90 #[.pointer (some ⟨W.heap.size,0,none⟩)] eg (fun x _ X hX=>sv_at1 x lab (hX.keep g0 (fun x=>by cases x))))
  clear f0 g0 hrm
  go_enter Tryz.func66,Tryz.ntmps66
  go_wp2_with fail
  refine cF.out.mono ?_
  rintro e1 w1 ⟨rfl,f1⟩
  go_wp2_with fail
  go_ret
  exact⟨by first|rfl|simp,F0.out.trans f1⟩
theorem sv_fresh{w:World}{P:List UInt8→Prop}{Q:Nat}{M0 M1 M2:Option Nat}{R:Raw}{m:Int}{ta tb:TyT}(h:SolAt w P Q M0 M1 M2 R m ta tb)(h0:0≤m)(h1:m≤4611686018427387904):
  Calls Tryz.prog 23 #[.pointer (some ⟨Q,0,none⟩)] w fun e w'=>e = .returned (.int .i64 (m+1))∧SolAt w' P Q M0 M1 M2 R (m+1) ta tb∧Fr [Q] w w':=by
 obtain⟨h2,h3⟩:=h.most (m+1)
 have H2:=Lib.hid h2
 have H3:=Lib.hid h3
 have hq:=h.lt
 obtain⟨_,_,_,c3,z3⟩:=h.cells
 clear h h2 h3
 go_enter Tryz.func23,Tryz.ntmps23
 go_wp2_with fail
 go_ret
 exact⟨by first|rfl|simp,H2.out,H3.out⟩
end
section
variable [LoB]
variable [Ex]
theorem restA_most(A:Ab)(v:Int)(fs:List Fd)(r:Int):(restA A v fs r).2.most=A.most:=by
 unfold restA;split <;> rfl
section
variable {w w':World} {P:List UInt8→Prop} {Q:Nat} {M0 M1 M2:Option Nat} {G:Ctx} {R:Raw} {A:Ab}
theorem SolU.lk_of_no(h:SolU w P Q M0 M1 M2 G R A){r:Int}(hr:∀ k L,G r≠.rw k L):lk r R.rws=none:=by
 cases e:lk r R.rws with
 | none=>rfl
 | some q=>obtain⟨k,L,h1,_⟩:=h.sw.raw.rw_ r q e;exact absurd h1 (hr k L)
theorem SolU.lk0(h:SolU w P Q M0 M1 M2 G R A):lk 0 R.rws=none:=h.lk_of_no (fun k L e=>by have:=h.ok.pos 0 (by rw[e];simp);omega)
theorem SolU.lk_un(h:SolU w P Q M0 M1 M2 G R A){r:Int}(hr:A.s.rw r=([],r)):lk r R.rws=none:=by
 by_cases h0:0<r
 ·have:=told_eq h r
  unfold told at this
  rw[hr] at this
  simp[h0] at this
  exact this
 ·refine h.lk_of_no (fun k L e=>?_)
  have:=h.ok.pos r (by rw[e];simp);omega
theorem fresh_u(h:SolU w P Q M0 M1 M2 G R A)(k:Int){L:List (List UInt8)}(hL:Ri L)(hsz:w.heap.size≤w'.heap.size)(hs:SolAt w' P Q M0 M1 M2 R (A.most+1) A.a A.b):Le G (G.up (A.most+1) (.rw k L))∧SolU w' P Q M0 M1 M2 (G.up (A.most+1) (.rw k L)) R { A with most:=A.most+1 }:=by
 obtain⟨h1,h2⟩:=aok_fresh h.ok k L hL
 exact⟨h1,⟨hs,h.sw.rk,h.sw.rep,h.sw.so,h2.sw,h.sw.raw.le h1,h.sw.few⟩,h2,fun b hb=>Nat.lt_of_lt_of_le (h.ex b hb) hsz⟩
end
structure RestsOk (G:Ctx)(k:Int)(C:List UInt8→Prop)(a b:Int)(o1 o2:List Fd):Prop where
 w1:WfFs G o1
 w2:WfFs G o2
 r1:Ri (labs o1)
 r2:Ri (labs o2)
 d1:∀ f ∈ o1,f.lb≠[]∧¬ C f.lb∧f.lb ∉ labs o2∧(f.pr=0→a≠0)
 d2:∀ f ∈ o2,f.lb≠[]∧¬ C f.lb∧f.lb ∉ labs o1∧(f.pr=0→b≠0)
 ea:EndR G k (fun x=>C x∨x ∈ labs o1) a
 eb:EndR G k (fun x=>C x∨x ∈ labs o2) b
 l1:o1.length≤1099511627776
 l2:o2.length≤1099511627776
theorem sv_rests{w:World}{P:List UInt8→Prop}{Q:Nat}{M0 M1 M2:Option Nat}{G:Ctx}{R:Raw}{A:Ab}(h:SolU w P Q M0 M1 M2 G R A)(hm:A.most+cnt A≤4398046511104){k:Int}{C:List UInt8→Prop}{a b:Int}{o1 o2:List Fd}(ho:RestsOk G k C a b o1 o2)(na:lk a R.rws=none)(nb:lk b R.rws=none)
  {B1 B2:Option Addr} {d1 d2:Nat} (t1:FsAt w (okW w) P (.slice B1 o1.length d1) o1) (t2:FsAt w (okW w) P (.slice B2 o2.length d2) o2):
  Calls Tryz.prog 70 #[.pointer (some ⟨Q,0,none⟩),.int .i64 a,.int .i64 b,.slice B1 o1.length d1,.slice B2 o2.length d2] w (UR w P Q M0 M1 M2 G A (restsA A a b o1 o2)):=by
 have H:=Lib.hid h
 have ra0:=h.sw.rep.rw0 a na
 have rb0:=h.sw.rep.rw0 b nb
 have F0:=Lib.hid (Fr.refl [] w)
 have hl1:=ho.l1
 have hl2:=ho.l2
 have ha0:0≤a:=by rcases ho.ea with e|⟨e,_⟩<;> omega
 have hb0:0≤b:=by rcases ho.eb with e|⟨e,_⟩<;> omega
 by_cases hab:a=b
 ·have c1:(a==b)=true:=by simp[hab]
  by_cases hc:0<a∧o1.length+o2.length≠0
  ·have HE:Hid (restsA A a b o1 o2=(25,A)):=Lib.hid (by unfold restsA;rw[if_pos hab,if_pos hc])
   obtain⟨hc1,hc2⟩:=hc
   have hc3:(0:Int)<(o1.length:Int)+(o2.length:Int):=by omega
   clear h ho na nb t1 t2 ra0 rb0 hab hc2
   go_enter Tryz.func70,Tryz.ntmps70
   go_wp2_with fail
   go_ret
   rw[HE.out]
   exact .stay H.out F0.out 25
  ·have HE:Hid (restsA A a b o1 o2=(0,A)):=Lib.hid (by unfold restsA;rw[if_pos hab,if_neg hc])
   have hcc:¬ 0<a∨(0<a∧¬ (0:Int)<(o1.length:Int)+(o2.length:Int)):=by
    by_cases h1:0<a
    ·exact .inr ⟨h1,fun h2=>hc ⟨h1,by omega⟩⟩
    ·exact .inl h1
   clear h ho na nb t1 t2 ra0 rb0 hab hc
   rcases hcc with h1|⟨h1,h2⟩
   all_goals
    go_enter Tryz.func70,Tryz.ntmps70
    go_wp2_with fail
    go_ret
    rw[HE.out]
    exact .stay H.out F0.out 0
 ·have c1:(a==b)=false:=beq_eq_false_iff_ne.2 hab
  by_cases hza:a=0
  ·have c2:(a==0)=true:=by simp[hza]
   have HE:Hid (restsA A a b o1 o2=restA A b o1 0):=Lib.hid (by unfold restsA;rw[if_neg hab,if_pos hza])
   obtain⟨hb1,Lb,hb2,hb3,hb4⟩:=(show 1≤b∧∃ L,G b = .rw k L∧Ri L∧∀ x,x ∈ L↔C x∨x ∈ labs o2 by
    rcases ho.eb with e|e
    ·exact absurd (hza.trans e.symm) hab
    ·exact e)
   have cR:=Lib.hid (sv_rest h hb2 nb (fs:=o1) (r:=0) ho.w1 ⟨ho.r1,fun f hf=>⟨(ho.d1 f hf).1,fun hc=>((hb4 _).1 hc).elim (ho.d1 f hf).2.1 (ho.d1 f hf).2.2.1,fun hz=>absurd hza ((ho.d1 f hf).2.2.2 hz)⟩,.inl rfl⟩ h.ok.sw.ok h.lk0 (by omega) t1)
   clear h ho na nb t1 t2 ra0 rb0 hab hb2 hb3 hb4
   go_enter Tryz.func70,Tryz.ntmps70
   go_wp2_with fail
   refine cR.out.mono ?_
   rintro e1 w1 ⟨rfl,hu⟩
   have HU:=Lib.hid hu
   clear hu cR
   go_wp2_with fail
   go_ret
   rw[HE.out]
   exact⟨rfl,HU.out⟩
  ·have c2:(a==0)=false:=beq_eq_false_iff_ne.2 hza
   obtain⟨ha1,La,ha2,ha3,ha4⟩:=(show 1≤a∧∃ L,G a = .rw k L∧Ri L∧∀ x,x ∈ L↔C x∨x ∈ labs o1 by
    rcases ho.ea with e|e
    ·exact absurd e hza
    ·exact e)
   by_cases hzb:b=0
   ·have c3:(b==0)=true:=by simp[hzb]
    have HE:Hid (restsA A a b o1 o2=restA A a o2 0):=Lib.hid (by unfold restsA;rw[if_neg hab,if_neg hza,if_pos hzb])
    have cR:=Lib.hid (sv_rest h ha2 na (fs:=o2) (r:=0) ho.w2 ⟨ho.r2,fun f hf=>⟨(ho.d2 f hf).1,fun hc=>((ha4 _).1 hc).elim (ho.d2 f hf).2.1 (ho.d2 f hf).2.2.1,fun hz=>absurd hzb ((ho.d2 f hf).2.2.2 hz)⟩,.inl rfl⟩ h.ok.sw.ok h.lk0 (by omega) t2)
    clear h ho na nb t1 t2 ra0 rb0 hab ha2 ha3 ha4
    go_enter Tryz.func70,Tryz.ntmps70
    go_wp2_with fail
    refine cR.out.mono ?_
    rintro e1 w1 ⟨rfl,hu⟩
    have HU:=Lib.hid hu
    clear hu cR
    go_wp2_with fail
    go_ret
    rw[HE.out]
    exact⟨rfl,HU.out⟩
   ·have c3:(b==0)=false:=beq_eq_false_iff_ne.2 hzb
    obtain⟨hb1,Lb,hb2,hb3,hb4⟩:=(show 1≤b∧∃ L,G b = .rw k L∧Ri L∧∀ x,x ∈ L↔C x∨x ∈ labs o2 by
     rcases ho.eb with e|e
     ·exact absurd e hzb
     ·exact e)
    by_cases hs:o1.length+o2.length=0
    ·have c4:((o1.length:Int)+(o2.length:Int)==0)=true:=by simp;omega
     have z1:o1=[]:=List.eq_nil_of_length_eq_zero (by omega)
     have z2:o2=[]:=List.eq_nil_of_length_eq_zero (by omega)
     have HE:Hid (restsA A a b o1 o2=restA A a [] b):=Lib.hid (by unfold restsA;rw[if_neg hab,if_neg hza,if_neg hzb,if_pos hs])
     have cR:=Lib.hid (sv_rest h ha2 na (fs:=[]) (r:=b) trivial ⟨.nil,fun f hf=>(by cases hf),.inr ⟨hb1,Lb,hb2,hb3,fun x=>by rw[hb4];show _↔x ∈ La∨x ∈ labs [];rw[ha4,z1,z2];simp[labs]⟩⟩ rb0 nb (fun e=>hab e.symm) (FsAt.nil none 0))
     clear h ho na nb t1 t2 ra0 rb0 hab ha2 ha3 ha4 hb2 hb3 hb4
     subst z1
     subst z2
     go_enter Tryz.func70,Tryz.ntmps70
     go_wp2_with fail
     refine cR.out.mono ?_
     rintro e1 w1 ⟨rfl,hu⟩
     have HU:=Lib.hid hu
     clear hu cR
     go_wp2_with fail
     go_ret
     rw[HE.out]
     exact⟨rfl,HU.out⟩
    ·have c4:((o1.length:Int)+(o2.length:Int)==0)=false:=beq_eq_false_iff_ne.2 (by omega)
     have hm0:=h.ok.mo
     have cF:=Lib.hid (sv_fresh h.sw.at_ hm0 (by omega))
     have HM:=Lib.hid hm
     have HO:=Lib.hid ho
     have HA2:=Lib.hid ha2
     have HA4:=Lib.hid ha4
     have HB2:=Lib.hid hb2
     have HB4:=Lib.hid hb4
     have HNA:=Lib.hid na
     have HNB:=Lib.hid nb
     have HRB:=Lib.hid rb0
     have T1:=Lib.hid t1
     have T2:=Lib.hid t2
     have HE:Hid (restsA A a b o1 o2=(if (restA { A with most:=A.most+1 } a o2 (A.most+1)).1≠0 then restA { A with most:=A.most+1 } a o2 (A.most+1)else restA (restA { A with most:=A.most+1 } a o2 (A.most+1)).2 b o1 (A.most+1))):=Lib.hid (by unfold restsA;rw[if_neg hab,if_neg hza,if_neg hzb,if_neg hs])
     have HAB:=Lib.hid hab
     clear h ho na nb t1 t2 ra0 rb0 hab ha2 ha3 ha4 hb2 hb3 hb4 hs hm
     go_enter Tryz.func70,Tryz.ntmps70
     go_wp2_with fail
     refine cF.out.mono ?_
     rintro e1 w1 ⟨rfl,hS1,f1⟩
     obtain⟨hle,hU1⟩:=fresh_u H.out k (mrgL_ri La (labs o2)) f1.size hS1
     have hno:∀ x ∈ [Q],¬ okW w x:=fun x hx=>by simp at hx;subst hx;exact(H.out.sw.at_.not_ok x (by simp[solL])).1
     have hgn:G (A.most+1)= .no:=H.out.ok.hi _ (by omega)
     have hna1:A.most+1≠a:=fun e=>by rw[e,HA2.out] at hgn;cases hgn
     have hnb1:A.most+1≠b:=fun e=>by rw[e,HB2.out] at hgn;cases hgn
     have hlkn:lk (A.most+1) R.rws=none:=H.out.lk_of_no (fun k' L' e=>by rw[hgn] at e;cases e)
     have hrn:A.s.rw (A.most+1)=([],A.most+1):=H.out.sw.rep.rw0 _ hlkn
     have hEn:EndR (G.up (A.most+1) (.rw k (mrgL La (labs o2)))) k (fun x=>x ∈ La∨x ∈ labs o2) (A.most+1):=.inr ⟨by omega,mrgL La (labs o2),up_self _ _ _,mrgL_ri _ _,fun x=>mrgL_mem⟩
     have hro1:RowOk (G.up (A.most+1) (.rw k (mrgL La (labs o2)))) k (· ∈ La) o2 (A.most+1):=⟨HO.out.r2,fun f hf=>⟨(HO.out.d2 f hf).1,fun hc=>((HA4.out _).1 hc).elim (HO.out.d2 f hf).2.1 (HO.out.d2 f hf).2.2.1,fun _=>by omega⟩,hEn⟩
     have cR1:=Lib.hid (sv_rest hU1 (by rw[hle a (by rw[HA2.out];simp)];exact HA2.out) HNA.out (wfFs_le hle HO.out.w2) hro1 hrn hlkn hna1 (T2.out.keep (sh_ok f1 hno)))
     have hfa:=(restA_adv (A':=(restA { A with most:=A.most+1 } a o2 (A.most+1)).2) (e:=(restA { A with most:=A.most+1 } a o2 (A.most+1)).1) hU1.ok (v:=a) (by rw[hle a (by rw[HA2.out];simp)];exact HA2.out) (hU1.sw.rep.rw0 a HNA.out) (wfFs_le hle HO.out.w2) hro1 rfl)
     have HFA:=Lib.hid hfa
     have HU1:=Lib.hid hU1
     have HLE:=Lib.hid hle
     have F1:=Lib.hid f1
     have HRN:=Lib.hid hrn
     have HNB1:=Lib.hid hnb1
     have HNA1:=Lib.hid hna1
     have HHI:=Lib.hid hno
     have HMR:=Lib.hid (restA_most { A with most:=A.most+1 } a o2 (A.most+1))
     clear hS1 hle hU1 hno hgn hna1 hnb1 hlkn hrn hEn hro1 hfa f1 cF
     generalize hr1:restA { A with most:=A.most+1 } a o2 (A.most+1)=r1 at *
     go_wp2_with fail
     refine cR1.out.mono ?_
     rintro e2 w2 ⟨rfl,hf2,hu⟩
     have F2:=Lib.hid hf2
     have HU:=Lib.hid hu
     clear hf2 hu cR1
     have hcnt1:cnt { A with most:=A.most+1 }=cnt A+1:=cnt_fresh H.out.ok
     have FW:Hid (Fr (solL Q M0 M1 M2) w w2):=Lib.hid ((F1.out.mono (fun x hx => .inl (by simp at hx;simp[solL,hx]))).trans F2.out)
     by_cases hr0:r1.1=0
     ·have c5:(r1.1==0)=true:=by simp[hr0]
      have c6:(r1.1 != 0)=false:=by simp[hr0]
      obtain⟨G2,N0,N1,N2,R2,hU2,hA2,hn2,hm2⟩:=HU.out hr0
      obtain⟨hfa1,hfa2,hfa3⟩:=HFA.out
      have hrb2:r1.2.s.rw b=([],b):=hfa3 b (fun e=>HAB.out e.symm) HRB.out
      have hrn2:r1.2.s.rw (A.most+1)=([],A.most+1):=hfa3 _ HNA1.out HRN.out
      have hg2:∀ v,(G.up (A.most+1) (.rw k (mrgL La (labs o2)))) v≠.no→G2 v=(G.up (A.most+1) (.rw k (mrgL La (labs o2)))) v:=hA2.le
      have hgb:G2 b = .rw k Lb:=by
       have e1:(G.up (A.most+1) (.rw k (mrgL La (labs o2)))) b = .rw k Lb:=by rw[HLE.out b (by rw[HB2.out];simp)];exact HB2.out
       rw[hg2 b (by rw[e1];simp),e1]
      have hgn2:G2 (A.most+1)= .rw k (mrgL La (labs o2)):=by
       have e1:(G.up (A.most+1) (.rw k (mrgL La (labs o2)))) (A.most+1)= .rw k (mrgL La (labs o2)):=up_self _ _ _
       rw[hg2 _ (by rw[e1];simp),e1]
      have hro2:RowOk G2 k (· ∈ Lb) o1 (A.most+1):=⟨HO.out.r1,fun f hf=>⟨(HO.out.d1 f hf).1,fun hc=>((HB4.out _).1 hc).elim (HO.out.d1 f hf).2.1 (HO.out.d1 f hf).2.2.1,fun _=>by omega⟩,.inr ⟨by omega,_,hgn2,mrgL_ri _ _,fun x=>by
       rw[mrgL_mem,HA4.out]
       show _↔x ∈ Lb∨x ∈ labs o1
       rw[HB4.out]
       constructor
       ·rintro((h|h)| h)
        ·exact .inl (.inl h)
        ·exact .inr h
        ·exact .inl (.inr h)
       ·rintro((h|h)| h)
        ·exact .inl (.inl h)
        ·exact .inr h
        ·exact .inl (.inr h)⟩⟩
      have hno2:∀ x ∈ solL Q M0 M1 M2,¬ okW w x:=fun x hx=>(H.out.sw.at_.not_ok x hx).1
      have hw1:WfFs G2 o1:=wfFs_le (HLE.out.trans hA2.le) HO.out.w1
      have cR2:=Lib.hid (sv_rest hU2 hgb (hU2.lk_un hrb2) hw1 hro2 hrn2 (hU2.lk_un hrn2) HNB1.out (T1.out.keep (sh_ok FW.out hno2)))
      have hfb:=(restA_adv (A':=(restA r1.2 b o1 (A.most+1)).2) (e:=(restA r1.2 b o1 (A.most+1)).1) hU2.ok hgb hrb2 hw1 hro2 rfl)
      have HFB:=Lib.hid hfb
      have HU2:=Lib.hid hU2
      have HAD:=Lib.hid hA2
      have HN2:=Lib.hid hn2
      have HC1:=Lib.hid (hfa2 hr0).2
      have HMB:=Lib.hid (restA_most r1.2 b o1 (A.most+1))
      have HE2:Hid (restsA A a b o1 o2=restA r1.2 b o1 (A.most+1)):=Lib.hid (by rw[HE.out,if_neg (by rw[hr0];simp)])
      have HR0:=Lib.hid hr0
      clear hU2 hA2 hn2 hm2 hfa1 hfa2 hfa3 hrb2 hrn2 hg2 hgb hgn2 hro2 hno2 hw1 hfb hr0 HU HFA
      rw[HR0.out]
      go_wp2_with fail
      refine cR2.out.mono ?_
      rintro e3 w3 ⟨rfl,hf3,hu3⟩
      have F3:=Lib.hid hf3
      have HU3:=Lib.hid hu3
      clear hf3 hu3 cR2
      go_wp2_with fail
      go_ret
      rw[HE2.out]
      have hn3:∀ x ∈ solL Q N0 N1 N2,x ∈ solL Q M0 M1 M2∨w.heap.size≤x:=fun x hx=>(HN2.out x hx).imp id (fun c=>by have:=F1.out.size;omega)
      refine⟨rfl,FW.out.step F3.out hn3,fun c=>?_⟩
      obtain⟨G3,L0,L1,L2,R3,hU3,hA3,hn4,_⟩:=HU3.out c
      refine⟨G3,L0,L1,L2,R3,hU3,?_,fun x hx=>?_,?_⟩
      ·have hA:=HAD.out.trans hA3
       refine⟨HLE.out.trans hA.le,hA.ok,.inr ⟨?_,?_⟩,hA.ea,hA.eb,?_⟩
       ·rcases hA.ext with e|⟨e,_⟩
        ·exfalso
         have h1:=HC1.out
         have h2:=(HFB.out.2.1 c).2
         have:=congrArg cnt e
         omega
        ·exact e
       ·have h1:=HC1.out
        have h2:=(HFB.out.2.1 c).2
        omega
       ·have:=hA.mo
        have e1:({ A with most:=A.most+1 }:Ab).most=A.most+1:=rfl
        rw[e1] at this;omega
      ·rcases hn4 x hx with c|c
       ·exact hn3 x c
       ·have:=FW.out.size;exact .inr (by omega)
      ·have h1:=HC1.out
       have h2:=(HFB.out.2.1 c).2
       have e1:=HMB.out
       have e2:=HMR.out
       rw[e1,e2]
       show A.most+1+_≤_
       omega
     ·have c5:(r1.1==0)=false:=beq_eq_false_iff_ne.2 hr0
      have c6:(r1.1 != 0)=true:=by simp[hr0]
      have HE2:Hid (restsA A a b o1 o2=r1):=Lib.hid (by rw[HE.out,if_pos hr0])
      have HR0:=Lib.hid hr0
      clear hr0
      go_wp2_with fail
      go_ret
      rw[HE2.out]
      exact⟨rfl,FW.out,fun c=>absurd c HR0.out⟩
end
section
variable [LoB]
variable [Ex]
def UNC(n:Nat):Prop:=∀ (w:World)(P:List UInt8→Prop)(Q:Nat)(M0 M1 M2:Option Nat)(G:Ctx)(R:Raw)(A:Ab)(x y:TyT)(B1 D1 B2 D2:Option Addr)(c1 d1 c2 d2:Nat)(r:Int×Ab),uni n A x y=some r→SolU w P Q M0 M1 M2 G R A→A.most+cnt A≤4398046511104→WfT G x→WfT G y →
  TyAt w (okW w) P x [.int .i64 x.k,.int .i64 x.v,.slice B1 x.args.length c1,.slice D1 x.fs.length d1,.int .i64 x.rest]→TyAt w (okW w) P y [.int .i64 y.k,.int .i64 y.v,.slice B2 y.args.length c2,.slice D2 y.fs.length d2,.int .i64 y.rest] →
  Calls Tryz.prog 32 #[.pointer (some ⟨Q,0,none⟩),.agg #[.int .i64 x.k,.int .i64 x.v,.slice B1 x.args.length c1,.slice D1 x.fs.length d1,.int .i64 x.rest],.agg #[.int .i64 y.k,.int .i64 y.v,.slice B2 y.args.length c2,.slice D2 y.fs.length d2,.int .i64 y.rest]] w (UR w P Q M0 M1 M2 G A r)
theorem uni_congr{n:Nat}{A:Ab}{x y x' y':TyT}(hx:ap A.s x=ap A.s x')(hy:ap A.s y=ap A.s y'):uni n A x y=uni n A x' y':=by
 cases n with
 | zero=>rw[uni,uni]
 | succ n=>rw[uni,uni,hx,hy]
theorem ThereR.lk{R:Raw}{q z:Int×Int}(h:ThereR R q z):z.1=2→lk z.2 R.prs=none:=by
 induction h with
 | not h=>exact fun c=>absurd c h
 | free _ h=>exact fun _=>h
 | go _ _ _ ih=>exact ih
theorem thG_t(f:Fd){y:Int×Int}(h:y.1≠0):(thG f y).t=f.t:=if_neg h
def fieldsA(n:Nat)(A:Ab)(f g:Fd):Option (Int×Ab):=if (presA A (apF A.s f) (apF A.s g)).1≠0∨(apF A.s f).pr=0∨(apF A.s g).pr=0 then some (presA A (apF A.s f) (apF A.s g))else uni n (presA A (apF A.s f) (apF A.s g)).2 (apF A.s f).t (apF A.s g).t
theorem sv_fields{n:Nat}(ih:UNC n){w:World}{P:List UInt8→Prop}{Q:Nat}{M0 M1 M2:Option Nat}{G:Ctx}{R:Raw}{A:Ab}(h:SolU w P Q M0 M1 M2 G R A)(hm:A.most+cnt A≤4398046511104){f g:Fd}(wf:WfF G f)(wg:WfF G g){r:Int×Ab}(hr:fieldsA n A f g=some r){B1 D1 B2 D2:Option Addr}{c1 d1 c2 d2:Nat}
  (tf:TyAt w (okW w) P f.t [.int .i64 f.t.k,.int .i64 f.t.v,.slice B1 f.t.args.length c1,.slice D1 f.t.fs.length d1,.int .i64 f.t.rest]) (tg:TyAt w (okW w) P g.t [.int .i64 g.t.k,.int .i64 g.t.v,.slice B2 g.t.args.length c2,.slice D2 g.t.fs.length d2,.int .i64 g.t.rest]):
  Calls Tryz.prog 67 #[.pointer (some ⟨Q,0,none⟩),.agg #[.string ⟨f.lb.toArray⟩,.int .i64 f.pr,.int .i64 f.p,.int .i64 f.t.k,.int .i64 f.t.v,.slice B1 f.t.args.length c1,.slice D1 f.t.fs.length d1,.int .i64 f.t.rest],.agg #[.string ⟨g.lb.toArray⟩,.int .i64 g.pr,.int .i64 g.p,.int .i64 g.t.k,.int .i64 g.t.v,.slice B2 g.t.args.length c2,.slice D2 g.t.fs.length d2,.int .i64 g.t.rest]] w (UR w P Q M0 M1 M2 G A r):=by
 obtain⟨ra,rb,rc,hk⟩:=h.sw.rk
 obtain⟨y1,hy1⟩:=there_ex hk (rb f.p+1) (f.pr,f.p) (fun _ _=>Nat.lt_succ_self _)
 obtain⟨y2,hy2⟩:=there_ex hk (rb g.p+1) (g.pr,g.p) (fun _ _=>Nat.lt_succ_self _)
 have e1:y1=pre A.s f:=hy1.end_ h.sw.rep
 have e2:y2=pre A.s g:=hy2.end_ h.sw.rep
 have p1:=pre_wf h.ok wf
 have p2:=pre_wf h.ok wg
 rw[← e1] at p1
 rw[← e2] at p2
 have wt1:y1.1≠0→WfT G f.t:=fun c=>by
  rcases wfF_pre wf with⟨a1,a2,_⟩| ⟨_,_,a3⟩| ⟨_,_,_,a3⟩
  ·exfalso;apply c;rw[e1];unfold pre;rw[a1,if_neg (by decide)]
  ·exact a3
  ·exact a3
 have wt2:y2.1≠0→WfT G g.t:=fun c=>by
  rcases wfF_pre wg with⟨a1,a2,_⟩| ⟨_,_,a3⟩| ⟨_,_,_,a3⟩
  ·exfalso;apply c;rw[e2];unfold pre;rw[a1,if_neg (by decide)]
  ·exact a3
  ·exact a3
 have ap1:y1.1≠0→(apF A.s f).t=ap A.s f.t:=fun c=>apF_t _ _ (by rw[← e1];exact c)
 have ap2:y2.1≠0→(apF A.s g).t=ap A.s g.t:=fun c=>apF_t _ _ (by rw[← e2];exact c)
 unfold fieldsA presA at hr
 simp only[apF_pr,apF_p,← e1,← e2] at hr
 have cF:=fun X (hX:Fr [] w X)=>Lib.hid (sv_there hX h.sw.at_ hk hy1 tf)
 have cG:=fun X (hX:Fr [] w X)=>Lib.hid (sv_there hX h.sw.at_ hk hy2 tg)
 have f0:=((Fr.refl [] w).alloc (.cells #[.string ⟨f.lb.toArray⟩,.int .i64 f.pr,.int .i64 f.p,.int .i64 f.t.k,.int .i64 f.t.v,.slice B1 f.t.args.length c1,.slice D1 f.t.fs.length d1,.int .i64 f.t.rest] 44)).alloc (.cells #[.string ⟨g.lb.toArray⟩,.int .i64 g.pr,.int .i64 g.p,.int .i64 g.t.k,.int .i64 g.t.v,.slice B2 g.t.args.length c2,.slice D2 g.t.fs.length d2,.int .i64 g.t.rest] 44)
 have g0:=heap_old (heap_new w (.cells #[.string ⟨f.lb.toArray⟩,.int .i64 f.pr,.int .i64 f.p,.int .i64 f.t.k,.int .i64 f.t.v,.slice B1 f.t.args.length c1,.slice D1 f.t.fs.length d1,.int .i64 f.t.rest] 44)) (.cells #[.string ⟨g.lb.toArray⟩,.int .i64 g.pr,.int .i64 g.p,.int .i64 g.t.k,.int .i64 g.t.v,.slice B2 g.t.args.length c2,.slice D2 g.t.fs.length d2,.int .i64 g.t.rest] 44)
 have g1:=heap_new (w.alloc (.cells #[.string ⟨f.lb.toArray⟩,.int .i64 f.pr,.int .i64 f.p,.int .i64 f.t.k,.int .i64 f.t.v,.slice B1 f.t.args.length c1,.slice D1 f.t.fs.length d1,.int .i64 f.t.rest] 44)) (.cells #[.string ⟨g.lb.toArray⟩,.int .i64 g.pr,.int .i64 g.p,.int .i64 g.t.k,.int .i64 g.t.v,.slice B2 g.t.args.length c2,.slice D2 g.t.fs.length d2,.int .i64 g.t.rest] 44)
 rw[World.size_alloc] at g1
 have H:=Lib.hid h
 have IH:=Lib.hid ih
 have HM:=Lib.hid hm
 have HR:=Lib.hid hr
 have HP1:=Lib.hid p1
 have HP2:=Lib.hid p2
 have HL1:=Lib.hid hy1.lk
 have HL2:=Lib.hid hy2.lk
 have W1:=Lib.hid wt1
 have W2:=Lib.hid wt2
 have AP1:=Lib.hid ap1
 have AP2:=Lib.hid ap2
 have F0:=Lib.hid f0
 have hq:=h.sw.at_.lt
 obtain⟨⟨l0,l1,l2,l3,l4,l5,l6,l7⟩,_⟩:=cells8 g0
 obtain⟨⟨k0,k1,k2,k3,k4,k5,k6,k7⟩,_⟩:=cells8 g1
 have hs0:=lt_of_heap g0
 have hs1:=lt_of_heap g1
 clear h ih hm hr hk hy1 hy2 e1 e2 p1 p2 wt1 wt2 ap1 ap2 tf tg wf wg f0
 go_enter Tryz.func67,Tryz.ntmps67
 go_wp2_with fail
 generalize (w.alloc (.cells #[.string ⟨f.lb.toArray⟩,.int .i64 f.pr,.int .i64 f.p,.int .i64 f.t.k,.int .i64 f.t.v,.slice B1 f.t.args.length c1,.slice D1 f.t.fs.length d1,.int .i64 f.t.rest] 44)).alloc (.cells #[.string ⟨g.lb.toArray⟩,.int .i64 g.pr,.int .i64 g.p,.int .i64 g.t.k,.int .i64 g.t.v,.slice B2 g.t.args.length c2,.slice D2 g.t.fs.length d2,.int .i64 g.t.rest] 44)=w2 at *
 generalize hT:w.heap.size=T at *
 have n0:¬ T=T+1:=by omega
 have n1:¬ T+1=T:=by omega
 go_cut [] (fun wx=>∃ (A1':Option Addr) (a1':Nat) (E1':Option Addr) (b1':Nat) (A2':Option Addr) (a2':Nat) (E2':Option Addr) (b2':Nat),Hid (wx.heap[T]?=some (.cells #[.string ⟨f.lb.toArray⟩,.int .i64 y1.1,.int .i64 y1.2,.int .i64 (thG f y1).t.k,.int .i64 (thG f y1).t.v,.slice A1' (thG f y1).t.args.length a1',.slice E1' (thG f y1).t.fs.length b1',.int .i64 (thG f y1).t.rest] 44 (0,0)))∧Hid (wx.heap[T+1]?=some (.cells #[.string ⟨g.lb.toArray⟩,.int .i64 y2.1,.int .i64 y2.2,.int .i64 (thG g y2).t.k,.int .i64 (thG g y2).t.v,.slice A2' (thG g y2).t.args.length a2',.slice E2' (thG g y2).t.fs.length b2',.int .i64 (thG g y2).t.rest] 44 (0,0)))∧
  Hid (TyAt w (okW w) P (thG f y1).t [.int .i64 (thG f y1).t.k,.int .i64 (thG f y1).t.v,.slice A1' (thG f y1).t.args.length a1',.slice E1' (thG f y1).t.fs.length b1',.int .i64 (thG f y1).t.rest])∧Hid (TyAt w (okW w) P (thG g y2).t [.int .i64 (thG g y2).t.k,.int .i64 (thG g y2).t.v,.slice A2' (thG g y2).t.args.length a2',.slice E2' (thG g y2).t.fs.length b2',.int .i64 (thG g y2).t.rest])∧Hid (Fr [] w wx))
 case first =>
   refine wp_region_tail2 6 (fun w'=>Fr [] w2 w') (by kernel_rfl) (by kernel_rfl) (by kernel_rfl) rfl rfl ((Fr.refl [] w2).drew) (fun K K' hK hK' hHeld=>?hsp)
   dsimp only[List.take]
   refine held_take (i:=0) (v:=?vp_0) rfl (by kernel_rfl) (by kernel_rfl) (by kernel_rfl) (fun _ _ _ h=>h) (Or.inl ⟨by rfl,?yp_0⟩) hHeld ?rp_0
   case yp_0 =>
     intro w' hSw
     go_simp
     (try with_reducible rfl)
   (try simp only[Act.put,List.setIfInBounds_toArray,List.set_cons_zero,List.set_cons_succ])
   refine held_take (i:=1) (v:=?vp_1) rfl (by kernel_rfl) (by kernel_rfl) (by kernel_rfl) (fun _ _ _ h=>h) (Or.inl ⟨by rfl,?yp_1⟩) hHeld ?rp_1
   case yp_1 =>
     intro w' hSw
     have hg:=Fr.keep (show Fr [] w2 w' from hSw) g0 (fun x=>by cases x)
     have hc:=cells8 hg
     have hl:=lt_of_heap hg
     go_simp
     (try with_reducible rfl)
   (try simp only[Act.put,List.setIfInBounds_toArray,List.set_cons_zero,List.set_cons_succ])
   refine held_take (i:=3) (v:=?vp_3) rfl (by kernel_rfl) (by kernel_rfl) (by kernel_rfl) (fun _ _ _ h=>h) (Or.inl ⟨by rfl,?yp_3⟩) hHeld ?rp_3
   case yp_3 =>
     intro w' hSw
     go_simp
     (try with_reducible rfl)
   (try simp only[Act.put,List.setIfInBounds_toArray,List.set_cons_zero,List.set_cons_succ])
   refine held_take (i:=4) (v:=?vp_4) rfl (by kernel_rfl) (by kernel_rfl) (by kernel_rfl) (fun _ _ _ h=>h) (Or.inl ⟨by rfl,?yp_4⟩) hHeld ?rp_4
   case yp_4 =>
     intro w' hSw
     have hg:=Fr.keep (show Fr [] w2 w' from hSw) g1 (fun x=>by cases x)
     have hc:=cells8 hg
     have hl:=lt_of_heap hg
     go_simp
     (try with_reducible rfl)
   (try simp only[Act.put,List.setIfInBounds_toArray,List.set_cons_zero,List.set_cons_succ])
   refine held_step (i:=2) rfl (by kernel_rfl) (fun K1 hK1=>?tp_2)
   go_simp
   refine(cF _ (F0.out.drew)).out.mono ?_
   rintro e x6 ⟨A1',a1',E1',b1',rfl,hTf,f6⟩
   have F6:=(Fr.refl [] w2).drew.trans f6
   have HB6:=F0.out.trans F6
   go_simp
   refine hK1.out _ _ (F6) (fun hHeld=>?up_2)
   clear hK1 K1
   (try simp only[Act.put,List.setIfInBounds_toArray,List.set_cons_zero,List.set_cons_succ])
   refine held_step (i:=5) rfl (by kernel_rfl) (fun K1 hK1=>?tp_5)
   go_simp
   refine(cG _ HB6).out.mono ?_
   rintro e z ⟨A2',a2',E2',b2',rfl,hTg,f7⟩
   have FZ:=F6.trans f7
   go_simp
   refine hK1.out _ _ (FZ) (fun hHeld=>?up_5)
   clear hK1 K1
   (try simp only[Act.put,List.setIfInBounds_toArray,List.set_cons_zero,List.set_cons_succ])
   have hg0:=FZ.keep g0 (fun x=>by cases x)
   have hg1:=FZ.keep g1 (fun x=>by cases x)
   have kk:=cells8 hg0
   have uu:=cells8 hg1
   have hs6:=lt_of_heap hg1
   refine wpAnyH_done (by kernel_rfl) ?_ _
   refine thenLast_any rfl (fun Q'=>?_)
   go_simp
   refine hK'.out _ _ (fun Q''=>?_)
   clear hK' K'
   (try simp only[Act.put,List.setIfInBounds_toArray,List.set_cons_zero,List.set_cons_succ])
   go_simp
   refine hK.out _ _ ?_
   clear hK K
   have FW:=F0.out.trans FZ
   go_wp2_with fail
   go_meet
   exact⟨A1',a1',E1',b1',A2',a2',E2',b2',Lib.hid (by(simp[World.setCell,World.alloc,World.drew,Array.getElem?_modify,Array.getElem?_push,hg0,hg1,n0,n1])),Lib.hid (by(simp[World.setCell,World.alloc,World.drew,Array.getElem?_modify,Array.getElem?_push,hg0,hg1,n0,n1])),Lib.hid hTf,Lib.hid hTg,Lib.hid (by(repeat(first|with_reducible refine Fr.setCell ?_ (.inr (by first|simp;done|(simp;omega))) _|with_reducible refine Fr.alloc ?_ _|with_reducible refine Fr.drew ?_|with_reducible exact FW)))⟩
 case rest =>
  obtain⟨A1',a1',E1',b1',A2',a2',E2',b2',HB1,HB2,HTF,HTG,HFW⟩:=hcut
  clear cF cG l0 l1 l2 l3 l4 l5 l6 l7 k0 k1 k2 k3 k4 k5 k6 k7 hs0 hs1 g0 g1
  obtain⟨⟨l0,l1,l2,l3,l4,l5,l6,l7⟩,_⟩:=cells8 HB1.out
  obtain⟨⟨k0,k1,k2,k3,k4,k5,k6,k7⟩,_⟩:=cells8 HB2.out
  have hs0:=lt_of_heap HB1.out
  have hs1:=lt_of_heap HB2.out
  by_cases h2:y1.1=2
  ·have b1:(y1.1==2)=true:=by simp[h2]
   have q1':(y1.1==0)=false:=beq_eq_false_iff_ne.2 (by omega)
   have g1p:G y1.2 = .pr:=by
    rcases HP1.out with c|c|⟨_,_,c,_⟩
    ·rw[c] at h2;exact absurd h2 (by decide)
    ·rw[c] at h2;exact absurd h2 (by decide)
    ·exact c
   by_cases h3:y2.1=2∧y1.2=y2.2
   ·have b2:(y2.1==2)=true:=by simp[h3.1]
    have q2':(y2.1==0)=false:=beq_eq_false_iff_ne.2 (by omega)
    have b3:(y1.2==y2.2)=true:=by simp[h3.2]
    have hr:=HR.out
    rw[show(if y1.1=2∧y2.1=2∧y1.2=y2.2 then ((0:Int),A)else _)=(0,A)from if_pos ⟨h2,h3.1,h3.2⟩] at hr
    rw[if_neg (by rintro(c|c|c);exact c rfl;omega;omega)] at hr
    have hu:uni n A (thG f y1).t (thG g y2).t=some r:=by
     rw[← hr]
     refine uni_congr ?_ ?_
     ·rw[thG_t _ (by omega),AP1.out (by omega),ap_ap H.out.ok.so]
     ·rw[thG_t _ (by omega),AP2.out (by omega),ap_ap H.out.ok.so]
    have w1:WfT G (thG f y1).t:=by rw[thG_t _ (by omega)];exact W1.out (by omega)
    have w2':WfT G (thG g y2).t:=by rw[thG_t _ (by omega)];exact W2.out (by omega)
    have cU:=fun X (hX:Fr [] w X)=>Lib.hid (IH.out X P Q M0 M1 M2 G R A (thG f y1).t (thG g y2).t A1' E1' A2' E2' a1' b1' a2' b2' r hu (H.out.fr hX) HM.out w1 w2' (HTF.out.keep (sh0 hX)) (HTG.out.keep (sh0 hX)))
    clear hr hu w1 w2' h2 h3 g1p
    go_wp2_with fail
    refine(cU _ (by(repeat(first|with_reducible refine Fr.setCell ?_ (.inr (by first|simp;done|(simp;omega))) _|with_reducible refine Fr.alloc ?_ _|with_reducible refine Fr.drew ?_|with_reducible exact HFW.out)))).out.mono ?_
    rintro e2 w5 ⟨rfl,hu⟩
    have HU:=Lib.hid hu
    clear hu cU
    go_wp2_with fail
    go_ret
    exact UR.at0 (by(repeat(first|with_reducible refine Fr.setCell ?_ (.inr (by first|simp;done|(simp;omega))) _|with_reducible refine Fr.alloc ?_ _|with_reducible refine Fr.drew ?_|with_reducible exact HFW.out))) H.out.ok ⟨rfl,HU.out⟩
   ·have hbb:((y2.1==2)=false)∨((y2.1==2)=true∧(y1.2==y2.2)=false):=by
     by_cases c:y2.1=2
     ·exact .inr ⟨by simp[c],beq_eq_false_iff_ne.2 (fun e=>h3 ⟨c,e⟩)⟩
     ·exact .inl (beq_eq_false_iff_ne.2 c)
    have hq2:y2.1=2→y2.2≠y1.2∧lk y2.2 R.prs=none:=fun c=>⟨fun e=>h3 ⟨c,e.symm⟩,HL2.out c⟩
    have gvp:=g1p
    clear g1p
    rcases hbb with b2|⟨b2,b3⟩
    all_goals
     have hq0:y2=(0,0)∨y2=(1,0)∨(y2.1=2∧1≤y2.2∧G y2.2 = .pr):=by
      rcases HP2.out with c|c|⟨x1,x2,x3,_⟩
      ·exact .inl c
      ·exact .inr (.inl c)
      ·exact .inr (.inr ⟨x1,x2,x3⟩)
     have cT:=fun X (hX:Fr [] w X)=>Lib.hid (sv_there1 (H.out.fr hX) gvp (HL1.out h2) (q:=y2) hq0 hq2)
     obtain⟨r0,hr0⟩:∃ r0,A.put (.prB y1.2 y2)=r0:=⟨_,rfl⟩
     have hr:=HR.out
     rw[show(if y1.1=2∧y2.1=2∧y1.2=y2.2 then ((0:Int),A)else if y1.1=2 then A.put (.prB y1.2 (y2.1,y2.2))else if y2.1=2 then A.put (.prB y2.2 (y1.1,y1.2))else if y1.1≠y2.1 then (25,A)else (0,A))=r0 from (if_neg (fun c=>h3 ⟨c.2.1,c.2.2⟩)).trans ((if_pos h2).trans hr0)] at hr
     rw[hr0] at cT
     have HRR:=Lib.hid hr
     have Z1:=Lib.hid (show y1.1≠0 by omega)
     clear hr hq0 hq2 gvp h3 h2 hr0
     go_wp2_with fail
     refine(cT _ (by(repeat(first|with_reducible refine Fr.setCell ?_ (.inr (by first|simp;done|(simp;omega))) _|with_reducible refine Fr.alloc ?_ _|with_reducible refine Fr.drew ?_|with_reducible exact HFW.out)))).out.mono ?_
     rintro e2 w5 ⟨rfl,hf5,hu5⟩
     have FW5:=Fr.two (L:=[]) (a:=w) (by(repeat(first|with_reducible refine Fr.setCell ?_ (.inr (by first|simp;done|(simp;omega))) _|with_reducible refine Fr.alloc ?_ _|with_reducible refine Fr.drew ?_|with_reducible exact HFW.out))) hf5
     rw[List.nil_append] at FW5
     have HX:∀ x ∈ solL Q M0 M1 M2,¬ okW w x∧x<w.heap.size:=H.out.sw.at_.not_ok
     have hB1:=(Fr.two (L:=[]) (a:=wc) (by(repeat(first|with_reducible refine Fr.setCell ?_ (.inr (by first|simp;done|(simp;omega))) _|with_reducible refine Fr.alloc ?_ _|with_reducible refine Fr.drew ?_|with_reducible exact(Fr.refl [] wc)))) hf5).keep HB1.out (by rw[List.nil_append];exact fun hx=>by have:=(HX _ hx).2;omega)
     have hB2:=(Fr.two (L:=[]) (a:=wc) (by(repeat(first|with_reducible refine Fr.setCell ?_ (.inr (by first|simp;done|(simp;omega))) _|with_reducible refine Fr.alloc ?_ _|with_reducible refine Fr.drew ?_|with_reducible exact(Fr.refl [] wc)))) hf5).keep HB2.out (by rw[List.nil_append];exact fun hx=>by have:=(HX _ hx).2;omega)
     have hur:=UR.at0 (w:=w) (by(repeat(first|with_reducible refine Fr.setCell ?_ (.inr (by first|simp;done|(simp;omega))) _|with_reducible refine Fr.alloc ?_ _|with_reducible refine Fr.drew ?_|with_reducible exact HFW.out))) H.out.ok (⟨rfl,hf5,hu5⟩:UR _ P Q M0 M1 M2 G A r0 _ w5)
     have F5:=Lib.hid hur.2.1
     have HU5:=Lib.hid hur.2.2
     have HNO:=Lib.hid HX
     clear l0 l1 l2 l3 l4 l5 l6 l7 k0 k1 k2 k3 k4 k5 k6 k7 hs0 hs1 cT hf5 hu5 FW5 HX hur
     obtain⟨⟨l0,l1,l2,l3,l4,l5,l6,l7⟩,_⟩:=cells8 hB1
     obtain⟨⟨k0,k1,k2,k3,k4,k5,k6,k7⟩,_⟩:=cells8 hB2
     have hs0:=lt_of_heap hB1
     have hs1:=lt_of_heap hB2
     by_cases h0:r0.1=0
     ·have c5:(r0.1==0)=true:=by simp[h0]
      have c6:(r0.1 != 0)=false:=by simp[h0]
      by_cases hy0:y2.1=0
      ·have c7:(y2.1==0)=true:=by simp[hy0]
       have hrr:r=r0:=by
        have:=HRR.out
        rw[if_pos ((.inr (.inr hy0)))] at this
        exact(Option.some.inj this).symm
       have HE:=Lib.hid hrr
       clear hy0 h0 hrr
       go_wp2_with fail
       go_ret
       rw[HE.out]
       exact⟨rfl,F5.out,HU5.out⟩
      ·have c7:(y2.1==0)=false:=beq_eq_false_iff_ne.2 hy0
       have hr:=HRR.out
       rw[if_neg (by rintro(c|c|c);exact c h0;(have:=Z1.out;omega);exact hy0 c)] at hr
       obtain⟨G5,N0,N1,N2,R5,hU5,hA5,hn5,hm5⟩:=HU5.out h0
       have hno:∀ x ∈ solL Q M0 M1 M2,¬ okW w x:=fun x hx=>(HNO.out x hx).1
       have z1':y1.1≠0:=Z1.out
       have z2':y2.1≠0:=hy0
       have hu:uni n r0.2 (thG f y1).t (thG g y2).t=some r:=by
        rw[← hr]
        refine uni_congr ?_ ?_
        ·rw[thG_t _ z1',AP1.out z1'];exact(hA5.far H.out.ok f.t).symm
        ·rw[thG_t _ z2',AP2.out z2'];exact(hA5.far H.out.ok g.t).symm
       have w1:WfT G (thG f y1).t:=by rw[thG_t _ z1'];exact W1.out z1'
       have w2':WfT G (thG g y2).t:=by rw[thG_t _ z2'];exact W2.out z2'
       have cU:=Lib.hid (IH.out w5 P Q N0 N1 N2 G5 R5 r0.2 (thG f y1).t (thG g y2).t A1' E1' A2' E2' a1' b1' a2' b2' r hu hU5 (by have:=HM.out;omega) (wfT_le hA5.le w1) (wfT_le hA5.le w2') (HTF.out.keep (sh_ok F5.out hno)) (HTG.out.keep (sh_ok F5.out hno)))
       have HA5:=Lib.hid hA5
       have HN5:=Lib.hid hn5
       have HM5:=Lib.hid hm5
       clear hr hu w1 w2' hy0 hU5 hA5 hn5 hm5 hno z1' z2'
       rw[h0]
       clear h0
       go_wp2_with fail
       refine cU.out.mono ?_
       rintro e3 w6 ⟨rfl,hu⟩
       have HU:=Lib.hid hu
       clear hu cU
       go_wp2_with fail
       go_ret
       exact UR.after HA5.out F5.out HN5.out HM5.out ⟨rfl,HU.out⟩
     ·have c5:(r0.1==0)=false:=beq_eq_false_iff_ne.2 h0
      have c6:(r0.1 != 0)=true:=by simp[h0]
      have hrr:r=r0:=by
       have:=HRR.out
       rw[if_pos (.inl h0)] at this
       exact(Option.some.inj this).symm
      have HE:=Lib.hid hrr
      clear h0 hrr
      go_wp2_with fail
      go_ret
      rw[HE.out]
      exact⟨rfl,F5.out,HU5.out⟩
  ·have b1:(y1.1==2)=false:=beq_eq_false_iff_ne.2 h2
   by_cases h4:y2.1=2
   ·have b2:(y2.1==2)=true:=by simp[h4]
    have q2':(y2.1==0)=false:=beq_eq_false_iff_ne.2 (by omega)
    have gvp:G y2.2 = .pr:=by
     rcases HP2.out with c|c|⟨_,_,c,_⟩
     ·rw[c] at h4;exact absurd h4 (by decide)
     ·rw[c] at h4;exact absurd h4 (by decide)
     ·exact c
    have hq2:y1.1=2→y1.2≠y2.2∧lk y1.2 R.prs=none:=fun c=>absurd c h2
    have hq0:y1=(0,0)∨y1=(1,0)∨(y1.1=2∧1≤y1.2∧G y1.2 = .pr):=by
     rcases HP1.out with c|c|⟨x1,x2,x3,_⟩
     ·exact .inl c
     ·exact .inr (.inl c)
     ·exact .inr (.inr ⟨x1,x2,x3⟩)
    have cT:=fun X (hX:Fr [] w X)=>Lib.hid (sv_there1 (H.out.fr hX) gvp (HL2.out h4) (q:=y1) hq0 hq2)
    obtain⟨r0,hr0⟩:∃ r0,A.put (.prB y2.2 y1)=r0:=⟨_,rfl⟩
    have hr:=HR.out
    rw[show(if y1.1=2∧y2.1=2∧y1.2=y2.2 then ((0:Int),A)else if y1.1=2 then A.put (.prB y1.2 (y2.1,y2.2))else if y2.1=2 then A.put (.prB y2.2 (y1.1,y1.2))else if y1.1≠y2.1 then (25,A)else (0,A))=r0 from (if_neg (fun c=>h2 c.1)).trans ((if_neg h2).trans ((if_pos h4).trans hr0))] at hr
    rw[hr0] at cT
    have HRR:=Lib.hid hr
    have Z1:=Lib.hid (show y2.1≠0 by omega)
    clear hr hq0 hq2 gvp h2 h4 hr0
    go_wp2_with fail
    refine(cT _ (by(repeat(first|with_reducible refine Fr.setCell ?_ (.inr (by first|simp;done|(simp;omega))) _|with_reducible refine Fr.alloc ?_ _|with_reducible refine Fr.drew ?_|with_reducible exact HFW.out)))).out.mono ?_
    rintro e2 w5 ⟨rfl,hf5,hu5⟩
    have FW5:=Fr.two (L:=[]) (a:=w) (by(repeat(first|with_reducible refine Fr.setCell ?_ (.inr (by first|simp;done|(simp;omega))) _|with_reducible refine Fr.alloc ?_ _|with_reducible refine Fr.drew ?_|with_reducible exact HFW.out))) hf5
    rw[List.nil_append] at FW5
    have HX:∀ x ∈ solL Q M0 M1 M2,¬ okW w x∧x<w.heap.size:=H.out.sw.at_.not_ok
    have hB1:=(Fr.two (L:=[]) (a:=wc) (by(repeat(first|with_reducible refine Fr.setCell ?_ (.inr (by first|simp;done|(simp;omega))) _|with_reducible refine Fr.alloc ?_ _|with_reducible refine Fr.drew ?_|with_reducible exact(Fr.refl [] wc)))) hf5).keep HB1.out (by rw[List.nil_append];exact fun hx=>by have:=(HX _ hx).2;omega)
    have hB2:=(Fr.two (L:=[]) (a:=wc) (by(repeat(first|with_reducible refine Fr.setCell ?_ (.inr (by first|simp;done|(simp;omega))) _|with_reducible refine Fr.alloc ?_ _|with_reducible refine Fr.drew ?_|with_reducible exact(Fr.refl [] wc)))) hf5).keep HB2.out (by rw[List.nil_append];exact fun hx=>by have:=(HX _ hx).2;omega)
    have hur:=UR.at0 (w:=w) (by(repeat(first|with_reducible refine Fr.setCell ?_ (.inr (by first|simp;done|(simp;omega))) _|with_reducible refine Fr.alloc ?_ _|with_reducible refine Fr.drew ?_|with_reducible exact HFW.out))) H.out.ok (⟨rfl,hf5,hu5⟩:UR _ P Q M0 M1 M2 G A r0 _ w5)
    have F5:=Lib.hid hur.2.1
    have HU5:=Lib.hid hur.2.2
    have HNO:=Lib.hid HX
    clear l0 l1 l2 l3 l4 l5 l6 l7 k0 k1 k2 k3 k4 k5 k6 k7 hs0 hs1 cT hf5 hu5 FW5 HX hur
    obtain⟨⟨l0,l1,l2,l3,l4,l5,l6,l7⟩,_⟩:=cells8 hB1
    obtain⟨⟨k0,k1,k2,k3,k4,k5,k6,k7⟩,_⟩:=cells8 hB2
    have hs0:=lt_of_heap hB1
    have hs1:=lt_of_heap hB2
    by_cases h0:r0.1=0
    ·have c5:(r0.1==0)=true:=by simp[h0]
     have c6:(r0.1 != 0)=false:=by simp[h0]
     by_cases hy0:y1.1=0
     ·have c7:(y1.1==0)=true:=by simp[hy0]
      have hrr:r=r0:=by
       have:=HRR.out
       rw[if_pos ((.inr (.inl hy0)))] at this
       exact(Option.some.inj this).symm
      have HE:=Lib.hid hrr
      clear hy0 h0 hrr
      go_wp2_with fail
      go_ret
      rw[HE.out]
      exact⟨rfl,F5.out,HU5.out⟩
     ·have c7:(y1.1==0)=false:=beq_eq_false_iff_ne.2 hy0
      have hr:=HRR.out
      rw[if_neg (by rintro(c|c|c);exact c h0;exact hy0 c;(have:=Z1.out;omega))] at hr
      obtain⟨G5,N0,N1,N2,R5,hU5,hA5,hn5,hm5⟩:=HU5.out h0
      have hno:∀ x ∈ solL Q M0 M1 M2,¬ okW w x:=fun x hx=>(HNO.out x hx).1
      have z1':y1.1≠0:=hy0
      have z2':y2.1≠0:=Z1.out
      have hu:uni n r0.2 (thG f y1).t (thG g y2).t=some r:=by
       rw[← hr]
       refine uni_congr ?_ ?_
       ·rw[thG_t _ z1',AP1.out z1'];exact(hA5.far H.out.ok f.t).symm
       ·rw[thG_t _ z2',AP2.out z2'];exact(hA5.far H.out.ok g.t).symm
      have w1:WfT G (thG f y1).t:=by rw[thG_t _ z1'];exact W1.out z1'
      have w2':WfT G (thG g y2).t:=by rw[thG_t _ z2'];exact W2.out z2'
      have cU:=Lib.hid (IH.out w5 P Q N0 N1 N2 G5 R5 r0.2 (thG f y1).t (thG g y2).t A1' E1' A2' E2' a1' b1' a2' b2' r hu hU5 (by have:=HM.out;omega) (wfT_le hA5.le w1) (wfT_le hA5.le w2') (HTF.out.keep (sh_ok F5.out hno)) (HTG.out.keep (sh_ok F5.out hno)))
      have HA5:=Lib.hid hA5
      have HN5:=Lib.hid hn5
      have HM5:=Lib.hid hm5
      clear hr hu w1 w2' hy0 hU5 hA5 hn5 hm5 hno z1' z2'
      rw[h0]
      clear h0
      go_wp2_with fail
      refine cU.out.mono ?_
      rintro e3 w6 ⟨rfl,hu⟩
      have HU:=Lib.hid hu
      clear hu cU
      go_wp2_with fail
      go_ret
      exact UR.after HA5.out F5.out HN5.out HM5.out ⟨rfl,HU.out⟩
    ·have c5:(r0.1==0)=false:=beq_eq_false_iff_ne.2 h0
     have c6:(r0.1 != 0)=true:=by simp[h0]
     have hrr:r=r0:=by
      have:=HRR.out
      rw[if_pos (.inl h0)] at this
      exact(Option.some.inj this).symm
     have HE:=Lib.hid hrr
     clear h0 hrr
     go_wp2_with fail
     go_ret
     rw[HE.out]
     exact⟨rfl,F5.out,HU5.out⟩
   ·have b2:(y2.1==2)=false:=beq_eq_false_iff_ne.2 h4
    by_cases h5:y1.1=y2.1
    ·have b4:(y1.1==y2.1)=true:=by simp[h5]
     have b5:(y1.1 != y2.1)=false:=by simp[h5]
     have hr:=HR.out
     rw[show(if y1.1=2∧y2.1=2∧y1.2=y2.2 then ((0:Int),A)else if y1.1=2 then A.put (.prB y1.2 (y2.1,y2.2))else if y2.1=2 then A.put (.prB y2.2 (y1.1,y1.2))else if y1.1≠y2.1 then (25,A)else (0,A))=((0:Int),A)from (if_neg (fun c=>h2 c.1)).trans ((if_neg h2).trans ((if_neg h4).trans (if_neg (fun c=>c h5))))] at hr
     by_cases h0:y1.1=0
     ·have c7:(y1.1==0)=true:=by simp[h0]
      have hrr:r=(0,A):=by
       rw[if_pos (.inr (.inl h0))] at hr
       exact(Option.some.inj hr).symm
      have HE:=Lib.hid hrr
      clear h0 h2 h4 h5 hr hrr
      go_wp2_with fail
      go_ret
      rw[HE.out]
      exact .stay H.out (by(repeat(first|with_reducible refine Fr.setCell ?_ (.inr (by first|simp;done|(simp;omega))) _|with_reducible refine Fr.alloc ?_ _|with_reducible refine Fr.drew ?_|with_reducible exact HFW.out))) 0
     ·have c7:(y1.1==0)=false:=beq_eq_false_iff_ne.2 h0
      have c8:(y2.1==0)=false:=beq_eq_false_iff_ne.2 (by omega)
      have z1':y1.1≠0:=h0
      have z2':y2.1≠0:=by omega
      rw[if_neg (by rintro(c|c|c);exact c rfl;exact z1' c;exact z2' c)] at hr
      have hu:uni n A (thG f y1).t (thG g y2).t=some r:=by
       rw[← hr]
       refine uni_congr ?_ ?_
       ·rw[thG_t _ z1',AP1.out z1',ap_ap H.out.ok.so]
       ·rw[thG_t _ z2',AP2.out z2',ap_ap H.out.ok.so]
      have w1:WfT G (thG f y1).t:=by rw[thG_t _ z1'];exact W1.out z1'
      have w2':WfT G (thG g y2).t:=by rw[thG_t _ z2'];exact W2.out z2'
      have cU:=fun X (hX:Fr [] w X)=>Lib.hid (IH.out X P Q M0 M1 M2 G R A (thG f y1).t (thG g y2).t A1' E1' A2' E2' a1' b1' a2' b2' r hu (H.out.fr hX) HM.out w1 w2' (HTF.out.keep (sh0 hX)) (HTG.out.keep (sh0 hX)))
      clear hr hu w1 w2' h2 h4 h5 h0 z1' z2'
      go_wp2_with fail
      refine(cU _ (by(repeat(first|with_reducible refine Fr.setCell ?_ (.inr (by first|simp;done|(simp;omega))) _|with_reducible refine Fr.alloc ?_ _|with_reducible refine Fr.drew ?_|with_reducible exact HFW.out)))).out.mono ?_
      rintro e2 w5 ⟨rfl,hu⟩
      have HU:=Lib.hid hu
      clear hu cU
      go_wp2_with fail
      go_ret
      exact UR.at0 (by(repeat(first|with_reducible refine Fr.setCell ?_ (.inr (by first|simp;done|(simp;omega))) _|with_reducible refine Fr.alloc ?_ _|with_reducible refine Fr.drew ?_|with_reducible exact HFW.out))) H.out.ok ⟨rfl,HU.out⟩
    ·have b4:(y1.1==y2.1)=false:=beq_eq_false_iff_ne.2 h5
     have b5:(y1.1 != y2.1)=true:=by simp[h5]
     have hr:=HR.out
     rw[show(if y1.1=2∧y2.1=2∧y1.2=y2.2 then ((0:Int),A)else if y1.1=2 then A.put (.prB y1.2 (y2.1,y2.2))else if y2.1=2 then A.put (.prB y2.2 (y1.1,y1.2))else if y1.1≠y2.1 then (25,A)else (0,A))=((25:Int),A)from (if_neg (fun c=>h2 c.1)).trans ((if_neg h2).trans ((if_neg h4).trans (if_pos h5)))] at hr
     have hrr:r=(25,A):=by
      rw[if_pos (.inl (show(25:Int)≠0 by decide))] at hr
      exact(Option.some.inj hr).symm
     have HE:=Lib.hid hrr
     clear h2 h4 h5 hr hrr
     go_wp2_with fail
     go_ret
     rw[HE.out]
     exact .stay H.out (by(repeat(first|with_reducible refine Fr.setCell ?_ (.inr (by first|simp;done|(simp;omega))) _|with_reducible refine Fr.alloc ?_ _|with_reducible refine Fr.drew ?_|with_reducible exact HFW.out))) 25
end
section
variable [LoB]
variable [Ex]
def URC(n:Nat):Prop:=∀ (w:World)(P:List UInt8→Prop)(Q:Nat)(M0 M1 M2:Option Nat)(G:Ctx)(R:Raw)(A:Ab)(k:Int)(C:List UInt8→Prop)(F Gs:List Fd)(ra rb:Int)(B1 B2:Option Addr)(d1 d2:Nat)(r:Int×Ab),uniR n A F ra Gs rb=some r→SolU w P Q M0 M1 M2 G R A→A.most+cnt A≤4398046511104→Two G k C (F,ra) (Gs,rb)→
  FsAt w (okW w) P (.slice B1 F.length d1) F→FsAt w (okW w) P (.slice B2 Gs.length d2) Gs →
  Calls Tryz.prog 46 #[.pointer (some ⟨Q,0,none⟩),.agg #[.slice B1 F.length d1,.int .i64 ra],.agg #[.slice B2 Gs.length d2,.int .i64 rb]] w (UR w P Q M0 M1 M2 G A r)
theorem uniR_congr{n:Nat}{A:Ab}{F F' Gs Gs':List Fd}{ra ra' rb rb':Int}(h1:apRow A.s F ra=apRow A.s F' ra')(h2:apRow A.s Gs rb=apRow A.s Gs' rb'):uniR n A F ra Gs rb=uniR n A F' ra' Gs' rb':=by
 cases n with
 | zero=>rw[uniR,uniR]
 | succ n=>rw[uniR,uniR,h1,h2]
theorem uniL_cons{n:Nat}{A:Ab}{x y:TyT}{l m:List TyT}{r:Int×Ab}(h:uniL n A (x::l) (y::m)=some r):∃ k,n=k+1∧∃ r1,uni k A x y=some r1∧((r1.1≠0∧r=r1)∨(r1.1=0∧uniL k r1.2 l m=some r)):=by
 cases n with
 | zero=>rw[uniL] at h;cases h
 | succ k =>
  rw[uniL] at h
  cases e:uni k A x y with
  | none=>rw[e] at h;cases h
  | some r1 =>
   rw[e] at h
   obtain⟨e1,A1⟩:=r1
   dsimp only at h
   by_cases c:e1=0
   ·rw[if_neg (by rw[c];simp)] at h
    exact⟨k,rfl,_,e,.inr ⟨c,h⟩⟩
   ·rw[if_pos c] at h
    cases h
    exact⟨k,rfl,_,e,.inl ⟨c,rfl⟩⟩
theorem uniL_nil{n:Nat}{A:Ab}{r:Int×Ab}(h:uniL n A [] []=some r):r=(0,A):=by
 cases n with
 | zero=>rw[uniL] at h;cases h
 | succ k=>rw[uniL] at h;cases h;rfl;intro _ _ _ _ h;cases h
theorem unify_step{n:Nat}(ih:UNC n)(ihR:URC n):UNC (n+1):=by
 intro w P Q M0 M1 M2 G R A x y B1 D1 B2 D2 c1 d1 c2 d2 r hr h hm wx wy tx ty
 obtain⟨u,hu,hHu⟩:=h.sw.head wx tx
 obtain⟨v,hv,hHv⟩:=h.sw.head wy ty
 rw[uni] at hr
 rw[hu.kv.1,hu.kv.2,hv.kv.1,hv.kv.2] at hr
 have cF:=fun X hX=>Lib.hid (hHu X hX)
 have cG:=fun X hX=>Lib.hid (hHv X hX)
 have f0:=((Fr.refl [] w).alloc (.cells #[.int .i64 x.k,.int .i64 x.v,.slice B1 x.args.length c1,.slice D1 x.fs.length d1,.int .i64 x.rest] 27)).alloc (.cells #[.int .i64 y.k,.int .i64 y.v,.slice B2 y.args.length c2,.slice D2 y.fs.length d2,.int .i64 y.rest] 27)
 have g0:=heap_old (heap_new w (.cells #[.int .i64 x.k,.int .i64 x.v,.slice B1 x.args.length c1,.slice D1 x.fs.length d1,.int .i64 x.rest] 27)) (.cells #[.int .i64 y.k,.int .i64 y.v,.slice B2 y.args.length c2,.slice D2 y.fs.length d2,.int .i64 y.rest] 27)
 have g1:=heap_new (w.alloc (.cells #[.int .i64 x.k,.int .i64 x.v,.slice B1 x.args.length c1,.slice D1 x.fs.length d1,.int .i64 x.rest] 27)) (.cells #[.int .i64 y.k,.int .i64 y.v,.slice B2 y.args.length c2,.slice D2 y.fs.length d2,.int .i64 y.rest] 27)
 rw[World.size_alloc] at g1
 have H:=Lib.hid h
 have IH:=Lib.hid ih
 have IHR:=Lib.hid ihR
 have HM:=Lib.hid hm
 have HR:=Lib.hid hr
 have HU:=Lib.hid hu
 have HV:=Lib.hid hv
 have F0:=Lib.hid f0
 have hq:=h.sw.at_.lt
 obtain⟨⟨l0,l1,l2,l3,l4⟩,_⟩:=cells5 g0
 obtain⟨⟨k0,k1,k2,k3,k4⟩,_⟩:=cells5 g1
 have hs0:=lt_of_heap g0
 have hs1:=lt_of_heap g1
 clear h ih ihR hm hr hu hv hHu hHv tx ty wx wy f0
 go_enter Tryz.func32,Tryz.ntmps32
 go_wp2_with fail
 generalize (w.alloc (.cells #[.int .i64 x.k,.int .i64 x.v,.slice B1 x.args.length c1,.slice D1 x.fs.length d1,.int .i64 x.rest] 27)).alloc (.cells #[.int .i64 y.k,.int .i64 y.v,.slice B2 y.args.length c2,.slice D2 y.fs.length d2,.int .i64 y.rest] 27)=w2 at *
 generalize hT:w.heap.size=T at *
 have n0:¬ T=T+1:=by omega
 have n1:¬ T+1=T:=by omega
 go_cut [] (fun wx=>∃ (A1':Option Addr) (a1':Nat) (E1':Option Addr) (b1':Nat) (A2':Option Addr) (a2':Nat) (E2':Option Addr) (b2':Nat),Hid (wx.heap[T]?=some (.cells #[.int .i64 u.k,.int .i64 u.v,.slice A1' u.args.length a1',.slice E1' u.fs.length b1',.int .i64 u.rest] 27 (0,0)))∧Hid (wx.heap[T+1]?=some (.cells #[.int .i64 v.k,.int .i64 v.v,.slice A2' v.args.length a2',.slice E2' v.fs.length b2',.int .i64 v.rest] 27 (0,0)))∧
  Hid (TyAt w (okW w) P u [.int .i64 u.k,.int .i64 u.v,.slice A1' u.args.length a1',.slice E1' u.fs.length b1',.int .i64 u.rest])∧Hid (TyAt w (okW w) P v [.int .i64 v.k,.int .i64 v.v,.slice A2' v.args.length a2',.slice E2' v.fs.length b2',.int .i64 v.rest])∧Hid (Fr [] w wx))
 case first =>
   refine wp_region_tail2 6 (fun w'=>Fr [] w2 w') (by kernel_rfl) (by kernel_rfl) (by kernel_rfl) rfl rfl ((Fr.refl [] w2).drew) (fun K K' hK hK' hHeld=>?hsp)
   dsimp only[List.take]
   refine held_take (i:=0) (v:=?vp_0) rfl (by kernel_rfl) (by kernel_rfl) (by kernel_rfl) (fun _ _ _ h=>h) (Or.inl ⟨by rfl,?yp_0⟩) hHeld ?rp_0
   case yp_0 =>
     intro w' hSw
     go_simp
     (try with_reducible rfl)
   (try simp only[Act.put,List.setIfInBounds_toArray,List.set_cons_zero,List.set_cons_succ])
   refine held_take (i:=1) (v:=?vp_1) rfl (by kernel_rfl) (by kernel_rfl) (by kernel_rfl) (fun _ _ _ h=>h) (Or.inl ⟨by rfl,?yp_1⟩) hHeld ?rp_1
   case yp_1 =>
     intro w' hSw
     have hg:=Fr.keep (show Fr [] w2 w' from hSw) g0 (fun x=>by cases x)
     have hc:=cells5 hg
     have hl:=lt_of_heap hg
     go_simp
     (try with_reducible rfl)
   (try simp only[Act.put,List.setIfInBounds_toArray,List.set_cons_zero,List.set_cons_succ])
   refine held_take (i:=3) (v:=?vp_3) rfl (by kernel_rfl) (by kernel_rfl) (by kernel_rfl) (fun _ _ _ h=>h) (Or.inl ⟨by rfl,?yp_3⟩) hHeld ?rp_3
   case yp_3 =>
     intro w' hSw
     go_simp
     (try with_reducible rfl)
   (try simp only[Act.put,List.setIfInBounds_toArray,List.set_cons_zero,List.set_cons_succ])
   refine held_take (i:=4) (v:=?vp_4) rfl (by kernel_rfl) (by kernel_rfl) (by kernel_rfl) (fun _ _ _ h=>h) (Or.inl ⟨by rfl,?yp_4⟩) hHeld ?rp_4
   case yp_4 =>
     intro w' hSw
     have hg:=Fr.keep (show Fr [] w2 w' from hSw) g1 (fun x=>by cases x)
     have hc:=cells5 hg
     have hl:=lt_of_heap hg
     go_simp
     (try with_reducible rfl)
   (try simp only[Act.put,List.setIfInBounds_toArray,List.set_cons_zero,List.set_cons_succ])
   refine held_step (i:=2) rfl (by kernel_rfl) (fun K1 hK1=>?tp_2)
   go_simp
   refine(cF _ (F0.out.drew)).out.mono ?_
   rintro e x6 ⟨A1',a1',E1',b1',rfl,hTf,f6⟩
   have F6:=(Fr.refl [] w2).drew.trans f6
   have HB6:=F0.out.trans F6
   go_simp
   refine hK1.out _ _ (F6) (fun hHeld=>?up_2)
   clear hK1 K1
   (try simp only[Act.put,List.setIfInBounds_toArray,List.set_cons_zero,List.set_cons_succ])
   refine held_step (i:=5) rfl (by kernel_rfl) (fun K1 hK1=>?tp_5)
   go_simp
   refine(cG _ HB6).out.mono ?_
   rintro e z ⟨A2',a2',E2',b2',rfl,hTg,f7⟩
   have FZ:=F6.trans f7
   go_simp
   refine hK1.out _ _ (FZ) (fun hHeld=>?up_5)
   clear hK1 K1
   (try simp only[Act.put,List.setIfInBounds_toArray,List.set_cons_zero,List.set_cons_succ])
   have hg0:=FZ.keep g0 (fun x=>by cases x)
   have hg1:=FZ.keep g1 (fun x=>by cases x)
   have kk:=cells5 hg0
   have uu:=cells5 hg1
   have hs6:=lt_of_heap hg1
   refine wpAnyH_done (by kernel_rfl) ?_ _
   refine thenLast_any rfl (fun Q'=>?_)
   go_simp
   refine hK'.out _ _ (fun Q''=>?_)
   clear hK' K'
   (try simp only[Act.put,List.setIfInBounds_toArray,List.set_cons_zero,List.set_cons_succ])
   go_simp
   refine hK.out _ _ ?_
   clear hK K
   have FW:=F0.out.trans FZ
   go_wp2_with fail
   go_meet
   exact⟨A1',a1',E1',b1',A2',a2',E2',b2',Lib.hid (by(simp[World.setCell,World.alloc,World.drew,Array.getElem?_modify,Array.getElem?_push,hg0,hg1,n0,n1])),Lib.hid (by(simp[World.setCell,World.alloc,World.drew,Array.getElem?_modify,Array.getElem?_push,hg0,hg1,n0,n1])),Lib.hid hTf,Lib.hid hTg,Lib.hid (by(repeat(first|with_reducible refine Fr.setCell ?_ (.inr (by first|simp;done|(simp;omega))) _|with_reducible refine Fr.alloc ?_ _|with_reducible refine Fr.drew ?_|with_reducible exact FW)))⟩
 case rest =>
  obtain⟨A1',a1',E1',b1',A2',a2',E2',b2',HB1,HB2,HTF,HTG,HFW⟩:=hcut
  clear cF cG l0 l1 l2 l3 l4 k0 k1 k2 k3 k4 hs0 hs1 g0 g1
  obtain⟨⟨l0,l1,l2,l3,l4⟩,_⟩:=cells5 HB1.out
  obtain⟨⟨k0,k1,k2,k3,k4⟩,_⟩:=cells5 HB2.out
  have hs0:=lt_of_heap HB1.out
  have hs1:=lt_of_heap HB2.out
  by_cases hu1:u.k=1
  ·have t1:(u.k==1)=true:=by simp[hu1]
   obtain⟨ua,ub,uc,ud⟩:=HU.out.var hu1
   by_cases hsame:v.k=1∧u.v=v.v
   ·have t2:(v.k==1)=true:=by simp[hsame.1]
    have t3:(u.v==v.v)=true:=by simp[hsame.2]
    have hr:=HR.out
    rw[if_pos ⟨hu1,hsame.1,hsame.2⟩] at hr
    have HE:=Lib.hid (Option.some.inj hr)
    clear hr hsame hu1 ua ub uc ud
    go_wp2_with fail
    go_ret
    rw[← HE.out]
    exact .stay H.out HFW.out 0
   ·have hbb:((v.k==1)=false)∨((v.k==1)=true∧(u.v==v.v)=false):=by
     by_cases c:v.k=1
     ·exact .inr ⟨by simp[c],beq_eq_false_iff_ne.2 (fun e=>hsame ⟨c,e⟩)⟩
     ·exact .inl (beq_eq_false_iff_ne.2 c)
    have hend:v.k=1→v.v≠u.v∧lk v.v R.tys=none:=fun c=>⟨fun e=>hsame ⟨c,e.symm⟩,(HV.out.var c).2.2.1⟩
    have hr:=HR.out
    rw[if_neg (fun c=>hsame ⟨c.2.1,c.2.2⟩),if_pos hu1,← HV.out.same] at hr
    have HE:=Lib.hid (Option.some.inj hr)
    have cB:=Lib.hid (sv_bind (H.out.fr HFW.out) ud uc HV.out.wf hend (HTG.out.keep (sh0 HFW.out)))
    clear hr hsame hu1 ua ub uc ud hend
    rcases hbb with t2|⟨t2,t3⟩
    all_goals
     go_wp2_with fail
     refine cB.out.mono ?_
     rintro e3 w6 ⟨rfl,hu⟩
     have HN:=Lib.hid hu
     clear hu cB
     go_wp2_with fail
     go_ret
     rw[← HE.out]
     exact UR.at0 HFW.out H.out.ok ⟨rfl,HN.out⟩
  ·have t1:(u.k==1)=false:=beq_eq_false_iff_ne.2 hu1
   by_cases hv1:v.k=1
   ·have t2:(v.k==1)=true:=by simp[hv1]
    obtain⟨va,vb,vc,vd⟩:=HV.out.var hv1
    have hr:=HR.out
    rw[if_neg (fun c=>hu1 c.1),if_neg hu1,if_pos hv1,← HU.out.same] at hr
    have HE:=Lib.hid (Option.some.inj hr)
    have cB:=Lib.hid (sv_bind (H.out.fr HFW.out) vd vc HU.out.wf (fun c=>absurd c hu1) (HTF.out.keep (sh0 HFW.out)))
    clear hr hu1 va vb vc vd hv1
    go_wp2_with fail
    refine cB.out.mono ?_
    rintro e3 w6 ⟨rfl,hu⟩
    have HN:=Lib.hid hu
    clear hu cB
    go_wp2_with fail
    go_ret
    rw[← HE.out]
    exact UR.at0 HFW.out H.out.ok ⟨rfl,HN.out⟩
   ·have t2:(v.k==1)=false:=beq_eq_false_iff_ne.2 hv1
    by_cases hk:u.k=v.k
    ·have t3:(u.k==v.k)=true:=by simp[hk]
     have t4:(u.k != v.k)=false:=by simp[hk]
     have hax:(ap A.s x).args=apTs A.s u.args:=by
      by_cases c:rwd u.k=true
      ·rw[(HU.out.row c).2.2.2,(HU.out.row c).1];rfl
      ·rw[(HU.out.pln hu1 c).2.2];rfl
     have hay:(ap A.s y).args=apTs A.s v.args:=by
      by_cases c:rwd v.k=true
      ·rw[(HV.out.row c).2.2.2,(HV.out.row c).1];rfl
      ·rw[(HV.out.pln hv1 c).2.2];rfl
     have hlen:u.args.length=v.args.length:=by
      have e1:∀ z:TyT,WfT G z→argN z.k=some z.args.length:=fun z hz=>by obtain⟨k,vv,args,fs,rest⟩:=z;rw[WfT] at hz;exact hz.1
      have h1:=e1 u HU.out.wf
      have h2:=e1 v HV.out.wf
      rw[hk,h2] at h1
      exact(Option.some.inj h1).symm
     have hr:=HR.out
     rw[if_neg (fun c=>hu1 c.1),if_neg hu1,if_neg hv1,if_neg (fun c=>c hk),hax,hay] at hr
     obtain⟨rl,hrl,hcase⟩:∃ rl,uniL n A (apTs A.s u.args) (apTs A.s v.args)=some rl∧((rl.1≠0∧r=rl)∨(rl.1=0∧(if rwd u.k=true then uniR n rl.2 (ap A.s x).fs (ap A.s x).rest (ap A.s y).fs (ap A.s y).rest else some (0,rl.2))=some r)):=by
      cases e:uniL n A (apTs A.s u.args) (apTs A.s v.args)with
      | none=>rw[e] at hr;cases hr
      | some q =>
       obtain⟨e1,A1⟩:=q
       rw[e] at hr
       dsimp only at hr
       by_cases c:e1=0
       ·rw[if_neg (by rw[c];simp)] at hr;exact⟨_,rfl,.inr ⟨c,hr⟩⟩
       ·rw[if_pos c] at hr;exact⟨_,rfl,.inl ⟨c,(Option.some.inj hr).symm⟩⟩
     have HRL:=Lib.hid hrl
     have HCA:=Lib.hid hcase
     have HLN:=Lib.hid hlen
     have HK:=Lib.hid hk
     have HU1:=Lib.hid hu1
     have HV1:=Lib.hid hv1
     have hal:u.args.length≤2:=HU.out.few.1
     have HNO:Hid (∀ x ∈ solL Q M0 M1 M2,¬ okW w x∧x<w.heap.size):=Lib.hid H.out.sw.at_.not_ok
     have HRE:=HFW
     have H0:=Lib.hid (show ∃ (G':Ctx) (N0 N1 N2:Option Nat) (R':Raw) (A':Ab) (m':Nat),m'≤n∧SolU wc P Q N0 N1 N2 G' R' A'∧Adv G A G' A'∧(∀ x ∈ solL Q N0 N1 N2,x ∈ solL Q M0 M1 M2∨w.heap.size≤x)∧A'.most+cnt A'≤A.most+cnt A∧uniL m' A' ((apTs A.s u.args).drop 0) ((apTs A.s v.args).drop 0)=some rl from ⟨G,M0,M1,M2,R,A,n,Nat.le_refl _,H.out.fr HFW.out,.refl H.out.ok,fun x hx => .inl hx,Int.le_refl _,hrl⟩)
     clear hr hrl hcase hlen hk hu1 hv1 hax hay
     go_wp2_with fail
     go_loopw [58] (fun iv wr=>∃ (i:Nat),iv = .int .i64 i∧i≤u.args.length∧Hid (wr.heap[T]?=some (.cells #[.int .i64 u.k,.int .i64 u.v,.slice A1' u.args.length a1',.slice E1' u.fs.length b1',.int .i64 u.rest] 27 (0,0)))∧Hid (wr.heap[T+1]?=some (.cells #[.int .i64 v.k,.int .i64 v.v,.slice A2' v.args.length a2',.slice E2' v.fs.length b2',.int .i64 v.rest] 27 (0,0)))∧Hid (Fr (solL Q M0 M1 M2) w wr)∧
      Hid (∃ (G':Ctx) (N0 N1 N2:Option Nat) (R':Raw) (A':Ab) (m':Nat),m'≤n∧SolU wr P Q N0 N1 N2 G' R' A'∧Adv G A G' A'∧(∀ x ∈ solL Q N0 N1 N2,x ∈ solL Q M0 M1 M2∨w.heap.size≤x)∧A'.most+cnt A'≤A.most+cnt A∧uniL m' A' ((apTs A.s u.args).drop i) ((apTs A.s v.args).drop i)=some rl)) (fun iv wr=>u.args.length-(intOf iv).toNat)
     case atStart=>exact⟨0,rfl,by omega,HB1,HB2,Lib.hid (HFW.out.mono (fun x hx=>by cases hx)),H0⟩
     case round =>
      obtain⟨i,rfl,hi,HB1,HB2,HF,HS⟩:=hrel
      clear l0 l1 l2 l3 l4 k0 k1 k2 k3 k4 hs0 hs1 H0 HRE
      obtain⟨⟨l0,l1,l2,l3,l4⟩,_⟩:=cells5 HB1.out
      obtain⟨⟨k0,k1,k2,k3,k4⟩,_⟩:=cells5 HB2.out
      have hs0:=lt_of_heap HB1.out
      have hs1:=lt_of_heap HB2.out
      have q1:(0:Int)≤(i:Int):=by omega
      obtain⟨G',N0,N1,N2,R',A',m',hmn,hSU,hAD,hNW,hCN,hUL⟩:=HS.out
      have hno:∀ x ∈ solL Q M0 M1 M2,¬ okW w x:=fun x hx=>(HNO.out x hx).1
      have hSH:=sh_ok HF.out hno
      by_cases hlt:i<u.args.length
      ·have q2:(i:Int)<(u.args.length:Int):=by omega
       have q3:(i:Int)<(v.args.length:Int):=by have:=HLN.out;omega
       have hx1:u.args[i]?=some u.args[i]:=List.getElem?_eq_getElem hlt
       have hx2:v.args[i]?=some (v.args[i]'(by have:=HLN.out;omega)):=List.getElem?_eq_getElem _
       have hd1:(apTs A.s u.args).drop i=ap A.s u.args[i]::(apTs A.s u.args).drop (i+1):=by
        rw[apTs_map,List.drop_eq_getElem_cons (by rw[List.length_map];exact hlt),List.getElem_map]
       have hd2:(apTs A.s v.args).drop i=ap A.s (v.args[i]'(by have:=HLN.out;omega))::(apTs A.s v.args).drop (i+1):=by
        rw[apTs_map,List.drop_eq_getElem_cons (by rw[List.length_map];have:=HLN.out;omega),List.getElem_map]
       rw[hd1,hd2] at hUL
       generalize u.args[i]=z1 at hx1 hUL
       generalize v.args[i]'(by have:=HLN.out;omega)=z2 at hx2 hUL
       obtain⟨k,hmk,r1,hr1,hnx⟩:=uniL_cons hUL
       obtain⟨ar1,_⟩:=HTF.out.parts
       obtain⟨ar2,_⟩:=HTG.out.parts
       obtain⟨g,og,rfl,hok,hg,P1,p1,S1,s1,hty1,x0,x1,x2,x3,x4⟩:=ar1.at hx1
       obtain⟨g',og',rfl,hok',hg',P2,p2,S2,s2,hty2,y0,y1,y2,y3,y4⟩:=ar2.at hx2
       have hw1:=HU.out.few.2 z1 (List.mem_of_getElem? hx1)
       have hw2:=HV.out.few.2 z2 (List.mem_of_getElem? hx2)
       have hu':uni n A' z1 z2=some r1:=by
        refine uni_mono (n:=k) (m:=n) (by omega) ?_
        rw[← hr1]
        exact uni_congr (hAD.far H.out.ok z1).symm (hAD.far H.out.ok z2).symm
       have hbk:=(hSH g hok hg).2.1
       have hbk':=(hSH g' hok' hg').2.1
       have hgw:=(hSH g hok hg).2.2
       have hgw':=(hSH g' hok' hg').2.2
       replace x0:=(World.cell?_of_block (w:=w) (w':=wr) (a:=⟨g,og+i * 5,none⟩) hbk).trans x0
       replace x1:=(World.cell?_of_block (w:=w) (w':=wr) (a:=⟨g,og+i * 5+1,none⟩) hbk).trans x1
       replace x2:=(World.cell?_of_block (w:=w) (w':=wr) (a:=⟨g,og+i * 5+2,none⟩) hbk).trans x2
       replace x3:=(World.cell?_of_block (w:=w) (w':=wr) (a:=⟨g,og+i * 5+3,none⟩) hbk).trans x3
       replace x4:=(World.cell?_of_block (w:=w) (w':=wr) (a:=⟨g,og+i * 5+4,none⟩) hbk).trans x4
       replace y0:=(World.cell?_of_block (w:=w) (w':=wr) (a:=⟨g',og'+i * 5,none⟩) hbk').trans y0
       replace y1:=(World.cell?_of_block (w:=w) (w':=wr) (a:=⟨g',og'+i * 5+1,none⟩) hbk').trans y1
       replace y2:=(World.cell?_of_block (w:=w) (w':=wr) (a:=⟨g',og'+i * 5+2,none⟩) hbk').trans y2
       replace y3:=(World.cell?_of_block (w:=w) (w':=wr) (a:=⟨g',og'+i * 5+3,none⟩) hbk').trans y3
       replace y4:=(World.cell?_of_block (w:=w) (w':=wr) (a:=⟨g',og'+i * 5+4,none⟩) hbk').trans y4
       have hd:=(Fr.refl [] wr).drew
       have cU:=Lib.hid (IH.out wr.drew P Q N0 N1 N2 G' R' A' z1 z2 P1 S1 P2 S2 p1 s1 p2 s2 r1 hu' (hSU.fr hd) (by have:=HM.out;omega) (wfT_le hAD.le hw1) (wfT_le hAD.le hw2) ((hty1.keep hSH).keep (sh0 hd)) ((hty2.keep hSH).keep (sh0 hd)))
       have HSU:=Lib.hid hSU
       have HAD:=Lib.hid hAD
       have HNW:=Lib.hid hNW
       have HCN:=Lib.hid hCN
       have HNX:=Lib.hid hnx
       have HMK:=Lib.hid hmk
       have HNG:Hid (∀ b,(b=T∨b=T+1)→b ∉ solL Q N0 N1 N2):=Lib.hid (fun b hb hx=>by
        rcases hNW b hx with c|c
        ·have:=(HNO.out b c).2;omega
        ·rcases solL_mem.1 hx with e|e|e|e
         ·have:=H.out.sw.at_.lt;omega
         all_goals
          rcases hb with rfl|rfl
          ·exact hSU.sw.at_.apart HB1.out (by decide) hx
          ·exact hSU.sw.at_.apart HB2.out (by decide) hx)
       have hgn:g ∉ solL Q N0 N1 N2:=fun hx=>(hSU.sw.at_.not_ok g hx).1 ((hSH g hok hg).1)
       have hgn':g' ∉ solL Q N0 N1 N2:=fun hx=>(hSU.sw.at_.not_ok g' hx).1 ((hSH g' hok' hg').1)
       clear hx1 hx2 hd1 hd2 hUL hmk hr1 hnx ar1 ar2 hty1 hty2 hw1 hw2 hu' hbk hbk' hSU hAD hNW hCN hno hSH hok hok' hd HS
       go_wp2_with fail
       first|go_region_held3 (fun w'=>(w'.cell? ⟨T,2,none⟩=some (.slice (some ⟨g,og,none⟩) u.args.length a1')∧w'.cell? ⟨T+1,2,none⟩=some (.slice (some ⟨g',og',none⟩) v.args.length a2'))∧(w'.cell? ⟨g,og+i * 5,none⟩=some (.int .i64 z1.k)∧w'.cell? ⟨g,og+i * 5+1,none⟩=some (.int .i64 z1.v)∧w'.cell? ⟨g,og+i * 5+2,none⟩=some (.slice P1 z1.args.length p1)∧w'.cell? ⟨g,og+i * 5+3,none⟩=some (.slice S1 z1.fs.length s1)∧w'.cell? ⟨g,og+i * 5+4,none⟩=some (.int .i64 z1.rest))∧
         (w'.cell? ⟨g',og'+i * 5,none⟩=some (.int .i64 z2.k)∧w'.cell? ⟨g',og'+i * 5+1,none⟩=some (.int .i64 z2.v)∧w'.cell? ⟨g',og'+i * 5+2,none⟩=some (.slice P2 z2.args.length p2)∧w'.cell? ⟨g',og'+i * 5+3,none⟩=some (.slice S2 z2.fs.length s2)∧w'.cell? ⟨g',og'+i * 5+4,none⟩=some (.int .i64 z2.rest))) (first|go_keep|exact MM)
        ((first|((with_reducible refine cU.out.mono ?_);rintro e3 w6 ⟨rfl,hf6,hu6⟩;have F6:=((Fr.refl [] wr).drew.mono (L':=solL Q N0 N1 N2) (fun x hx=>by cases hx)).trans hf6;have J1:=F6.keep HB1.out (HNG.out _ (.inl rfl));have J2:=F6.keep HB2.out (HNG.out _ (.inr rfl));have MM:=(⟨⟨(cells5 J1).1.2.2.1,(cells5 J2).1.2.2.1⟩,⟨(F6.cell (p:=⟨g,og+i * 5,none⟩) hgw hgn).trans x0,(F6.cell (p:=⟨g,og+i * 5+1,none⟩) hgw hgn).trans x1,(F6.cell (p:=⟨g,og+i * 5+2,none⟩) hgw hgn).trans x2,(F6.cell (p:=⟨g,og+i * 5+3,none⟩) hgw hgn).trans x3,(F6.cell (p:=⟨g,og+i * 5+4,none⟩) hgw hgn).trans x4⟩,⟨(F6.cell (p:=⟨g',og'+i * 5,none⟩) hgw' hgn').trans y0,(F6.cell (p:=⟨g',og'+i * 5+1,none⟩) hgw' hgn').trans y1,(F6.cell (p:=⟨g',og'+i * 5+2,none⟩) hgw' hgn').trans y2,(F6.cell (p:=⟨g',og'+i * 5+3,none⟩) hgw' hgn').trans y3,(F6.cell (p:=⟨g',og'+i * 5+4,none⟩) hgw' hgn').trans y4⟩⟩:(_∧_)∧(_∧_∧_∧_∧_)∧(_∧_∧_∧_∧_)))))  | fail
       all_goals
        have HJ1:=Lib.hid J1
        have HJ2:=Lib.hid J2
        have HF6:=Lib.hid (HF.out.step F6 (fun x hx=>(HNW.out x hx).imp id (fun c=>by have:=HF.out.size;omega)))
        have HU6:=Lib.hid hu6
        have HF60:=Lib.hid F6
        clear MM J1 J2 F6 hf6 hu6 cU x0 x1 x2 x3 x4 y0 y1 y2 y3 y4 l0 l1 l2 l3 l4 k0 k1 k2 k3 k4 hgn hgn'
        by_cases he:r1.1=0
        ·have c5:(r1.1==0)=true:=by simp[he]
         have c6:(r1.1 != 0)=false:=by simp[he]
         obtain⟨G2,O0,O1,O2,R2,hU2,hA2,hn2,hm2⟩:=HU6.out he
         have hnx:uniL k r1.2 ((apTs A.s u.args).drop (i+1)) ((apTs A.s v.args).drop (i+1))=some rl:=by
          rcases HNX.out with⟨c,_⟩| ⟨_,c⟩
          ·exact absurd he c
          ·exact c
         have HS2:=Lib.hid (show ∃ (G':Ctx) (N0 N1 N2:Option Nat) (R':Raw) (A':Ab) (m':Nat),m'≤n∧SolU w6 P Q N0 N1 N2 G' R' A'∧Adv G A G' A'∧(∀ x ∈ solL Q N0 N1 N2,x ∈ solL Q M0 M1 M2∨w.heap.size≤x)∧A'.most+cnt A'≤A.most+cnt A∧uniL m' A' ((apTs A.s u.args).drop (i+1)) ((apTs A.s v.args).drop (i+1))=some rl from
          ⟨G2,O0,O1,O2,R2,r1.2,k,by have:=HMK.out;omega,hU2,HAD.out.trans hA2,fun x hx=>by
           rcases hn2 x hx with c|c
           ·exact HNW.out x c
           ·have h1:=HF.out.size
            have h2:wr.drew.heap.size=wr.heap.size:=rfl
            exact .inr (by omega),Int.le_trans hm2 HCN.out,hnx⟩)
         clear hU2 hA2 hn2 hm2 hnx he
         go_wp2_with fail
         go_roundw
         case rel=>exact⟨i+1,by first|rfl|simp|go_num,by omega,HJ1,HJ2,HF6,HS2⟩
         case measure=>simp[intOf];omega
        ·have c5:(r1.1==0)=false:=beq_eq_false_iff_ne.2 he
         have c6:(r1.1 != 0)=true:=by simp[he]
         have hrr:r=r1:=by
          have e1:rl=r1:=by
           rcases HNX.out with⟨_,c⟩| ⟨c,_⟩
           ·exact c
           ·exact absurd c he
          rcases HCA.out with⟨_,c⟩| ⟨c,_⟩
          ·rw[c,e1]
          ·rw[e1] at c;exact absurd c he
         have HE:=Lib.hid hrr
         have HE2:=Lib.hid he
         clear hrr he
         go_wp2_with fail
         go_ret
         rw[HE.out]
         exact⟨rfl,HF6.out,fun c=>absurd c HE2.out⟩
      ·have q2:¬ (i:Int)<(u.args.length:Int):=by omega
       have hz1:(apTs A.s u.args).drop i=[]:=List.drop_eq_nil_of_le (by rw[apTs_map,List.length_map];omega)
       have hz2:(apTs A.s v.args).drop i=[]:=List.drop_eq_nil_of_le (by rw[apTs_map,List.length_map];have:=HLN.out;omega)
       rw[hz1,hz2] at hUL
       have hrl0:=uniL_nil hUL
       have hres:(if rwd u.k=true then uniR n A' (ap A.s x).fs (ap A.s x).rest (ap A.s y).fs (ap A.s y).rest else some (0,A'))=some r:=by
        rcases HCA.out with⟨c,_⟩| ⟨_,c⟩
        ·rw[hrl0] at c;exact absurd rfl c
        ·rw[hrl0] at c;exact c
       by_cases hr:rwd u.k=true
       ·rw[if_pos hr] at hres
        have hrv:rwd v.k=true:=by rw[← HK.out];exact hr
        obtain⟨_,wfu,rou,apu⟩:=HU.out.row hr
        obtain⟨_,wfv,rov,apv⟩:=HV.out.row hrv
        have hres2:uniR n A' u.fs u.rest v.fs v.rest=some r:=by
         rw[← hres,apu,apv]
         exact uniR_congr (hAD.farR H.out.ok _ _).symm (hAD.farR H.out.ok _ _).symm
        have htwo:Two G' u.k (fun _=>False) (u.fs,u.rest) (v.fs,v.rest):=(Two.le ⟨wfu,wfv,rou,by rw[HK.out];exact rov⟩ hAD.le)
        obtain⟨_,fs1⟩:=HTF.out.parts
        obtain⟨_,fs2⟩:=HTG.out.parts
        have cR:=Lib.hid (IHR.out wr P Q N0 N1 N2 G' R' A' u.k _ u.fs v.fs u.rest v.rest E1' E2' b1' b2' r hres2 hSU (by have:=HM.out;omega) htwo (fs1.keep hSH) (fs2.keep hSH))
        have HAD:=Lib.hid hAD
        have HNW:=Lib.hid hNW
        have HCN:=Lib.hid hCN
        have hkk:((u.k==10)=true)∨((u.k==10)=false∧(u.k==11)=true):=by
         unfold rwd at hr
         cases h:(u.k==10)
         ·rw[h] at hr;exact .inr ⟨rfl,by simpa using hr⟩
         ·exact .inl rfl
        clear hUL hrl0 hres hrv wfu rou apu wfv rov apv hres2 htwo fs1 fs2 hSU hAD hNW hCN hno hSH hz1 hz2 HS hr
        rcases hkk with hk1|⟨hk1,hk2⟩
        all_goals
         go_wp2_with fail
         refine cR.out.mono ?_
         rintro e3 w6 ⟨rfl,hu⟩
         have HN:=Lib.hid hu
         clear hu cR
         go_wp2_with fail
         go_ret
         exact UR.after HAD.out HF.out HNW.out HCN.out ⟨rfl,HN.out⟩
       ·rw[if_neg hr] at hres
        have HE:=Lib.hid (Option.some.inj hres)
        have hk10:(u.k==10)=false:=by unfold rwd at hr;simp at hr;simp[hr.1]
        have hk11:(u.k==11)=false:=by unfold rwd at hr;simp at hr;simp[hr.2]
        have HSU:=Lib.hid hSU
        have HAD:=Lib.hid hAD
        have HNW:=Lib.hid hNW
        have HCN:=Lib.hid hCN
        clear hUL hrl0 hres hSU hAD hNW hCN hno hSH hz1 hz2 HS hr
        go_wp2_with fail
        go_ret
        rw[← HE.out]
        exact⟨rfl,HF.out,fun _=>⟨G',N0,N1,N2,R',HSU.out,HAD.out,HNW.out,HCN.out⟩⟩
    ·have t3:(u.k==v.k)=false:=beq_eq_false_iff_ne.2 hk
     have t4:(u.k != v.k)=true:=by simp[hk]
     have hr:=HR.out
     rw[if_neg (fun c=>hu1 c.1),if_neg hu1,if_neg hv1,if_pos hk] at hr
     have HE:=Lib.hid (Option.some.inj hr)
     clear hr hu1 hv1 hk
     go_wp2_with fail
     go_ret
     rw[← HE.out]
     exact .stay H.out HFW.out 25
end
end
theorem ltB_lt:∀ a b:List UInt8,ltB a b=true↔a<b
 | [],[]=>by simp[ltB]
 | [],_::_=>by simp[ltB]
 | _::_,[]=>by simp[ltB]
 | x::a,y::b=>by
  rw[List.cons_lt_cons_iff,← ltB_lt a b]
  simp only[ltB,Bool.or_eq_true,decide_eq_true_eq,Bool.and_eq_true,beq_iff_eq]
  have e1:x.toNat<y.toNat↔x<y:=Iff.rfl
  rw[e1,UInt8.toNat_inj]
theorem le_ltB(a b:List UInt8):decide (a≤b)= !ltB b a:=by
 rw[Bool.eq_iff_iff,decide_eq_true_eq,Bool.not_eq_true',Bool.eq_false_iff,ne_eq,ltB_lt,List.not_lt]
theorem sort_lo(l:List (List UInt8)):Lo (l.mergeSort fun x y=>decide (x≤y)):=by
 have h:=List.pairwise_mergeSort (le:=fun x y:List UInt8=>decide (x≤y)) (fun a b c h k=>by
  rw[le_ltB] at h k ⊢
  rw[Bool.not_eq_true'] at h k ⊢
  exact leB_trans h k) (fun a b=>by
  rw[le_ltB,le_ltB]
  cases e:ltB b a
  ·rfl
  ·rw[ltB_asym e];rfl) l
 exact h.imp (fun{a b} hab=>by rw[le_ltB,Bool.not_eq_true'] at hab;exact hab)
theorem cpt_inv(l:List (List UInt8))(hl:Lo l):∀ k,k≤l.length→Ri (Lib.compactUpTo l.toArray k)∧∀ x,x ∈ Lib.compactUpTo l.toArray k↔x ∈ l.take k
 | 0,_=>by simp[Lib.compactUpTo]
 | k+1,hk=>by
  obtain⟨h1,h2⟩:=cpt_inv l hl k (by omega)
  have hlt:k<l.length:=by omega
  have g0:l.toArray[k]! = l[k]:=by rw[getElem!_pos _ k (by simpa using hlt)];simp
  have lo:∀ x,x ∈ l.take k→ltB l[k] x=false:=fun x hx=>by
   obtain⟨j,hj,rfl⟩:=List.mem_iff_getElem.1 hx
   rw[List.length_take] at hj
   rw[List.getElem_take]
   exact List.pairwise_iff_getElem.1 hl j k (by omega) hlt (by omega)
  rw[Lib.compactUpTo_succ,List.take_add_one,List.getElem?_eq_getElem hlt,g0]
  cases hkp:Lib.keeps l.toArray k
  ·simp only[Bool.false_eq_true,if_false,List.append_nil,Option.toList_some]
   refine⟨h1,fun x=>?_⟩
   rw[h2,List.mem_append,List.mem_singleton]
   refine⟨.inl,fun h=>h.elim id (fun e=>?_)⟩
   unfold Lib.keeps at hkp
   rw[decide_eq_false_iff_not,not_or] at hkp
   have hk0:0<k:=by omega
   have g1:l.toArray[k-1]! = l[k-1]'(by omega):=by rw[getElem!_pos _ (k-1) (by simp;omega)];simp
   have e2:l[k]=l[k-1]'(by omega):=by have:=Classical.not_not.1 hkp.2;rw[g0,g1] at this;exact this
   rw[e,e2]
   exact List.mem_iff_getElem.2 ⟨k-1,by rw[List.length_take];omega,List.getElem_take⟩
  ·simp only[if_true,Option.toList_some]
   refine⟨List.pairwise_append.2 ⟨h1,List.pairwise_singleton _ _,fun x hx y hy=>?_⟩,fun x=>by rw[List.mem_append,List.mem_append,h2]⟩
   rw[List.mem_singleton] at hy
   subst hy
   have hx2:=(h2 x).1 hx
   have hn:l[k]≠x→ltB x l[k]=true:=fun hne=>by
    cases e:ltB x l[k]
    ·exact absurd (ltB_tri _ _ (lo x hx2) e) hne
    ·rfl
   refine hn (fun e=>?_)
   unfold Lib.keeps at hkp
   rw[decide_eq_true_eq] at hkp
   rcases hkp with c|c
   ·subst c;simp at hx2
   ·have hk0:0<k:=by
     rcases Nat.eq_zero_or_pos k with c2|c2
     ·subst c2;simp at hx2
     ·exact c2
    have g1:l.toArray[k-1]! = l[k-1]'(by omega):=by rw[getElem!_pos _ (k-1) (by simp;omega)];simp
    rw[g0,g1] at c
    -- x is l[k],among the first k: the one ahead of place k equals it too
    obtain⟨j,hj,rfl⟩:=List.mem_iff_getElem.1 hx2
    rw[List.length_take] at hj
    rw[List.getElem_take] at e
    have a1:ltB l[k] (l[k-1]'(by omega))=false:=List.pairwise_iff_getElem.1 hl (k-1) k (by omega) hlt (by omega)
    have a2:ltB (l[k-1]'(by omega)) l[k]=false:=by
     rw[e]
     by_cases hjk:j=k-1
     ·subst hjk;exact ltB_irrefl _
     ·exact List.pairwise_iff_getElem.1 hl j (k-1) (by omega) (by omega) (by omega)
    exact c (ltB_tri _ _ a1 a2)
theorem cpt_sort(l:List (List UInt8)):Lib.compact (l.mergeSort fun x y=>decide (x≤y))=cptL (srtL l):=by
 have h:=cpt_inv _ (sort_lo l) _ (Nat.le_refl _)
 refine ri_ext h.1 (cptL_ri (srtL_lo l)) (fun x=>?_)
 show x ∈ Lib.compactUpTo _ _↔_
 rw[h.2,List.take_length,List.mem_mergeSort,cptL_mem,srtL_mem]
theorem cpt_le(l:List (List UInt8)):(cptL (srtL l)).length≤l.length:=by
 rw[← cpt_sort]
 have:=Lib.compact_length_le (l.mergeSort fun x y=>decide (x≤y))
 rw[List.length_mergeSort] at this
 exact this
theorem fnd_ap(s:Sub)(x:List UInt8)(l:List Fd):fnd x (apFs s l)=(fnd x l).map (apF s):=by
 rw[apFs_map]
 unfold fnd
 rw[List.find?_map]
 congr 2
 funext f
 simp[apF_lb]
theorem lsOf_ap(s:Sub)(F Gs:List Fd):lsOf (apFs s F) (apFs s Gs)=lsOf F Gs:=by unfold lsOf;rw[labs_apFs,labs_apFs]
theorem only_ap(s:Sub)(F Gs:List Fd):∀ ls,onlyL (apFs s F) (apFs s Gs) ls=apFs s (onlyL F Gs ls)
 | []=>rfl
 | x::ls=>by
  rw[onlyL,onlyL,fnd_ap,fnd_ap,only_ap s F Gs ls]
  cases fnd x F <;> cases fnd x Gs <;> rfl
def one1(F Gs:List Fd)(x:List UInt8):List Fd:=match fnd x F,fnd x Gs with
 | some f,none=>[f]
 | _,_=>[]
theorem onlyL_snoc(F Gs:List Fd)(x:List UInt8):∀ ls,onlyL F Gs (ls++[x])=onlyL F Gs ls++one1 F Gs x
 | []=>by
  rw[List.nil_append,onlyL,onlyL,onlyL]
  unfold one1
  cases fnd x F <;> cases fnd x Gs <;> rfl
 | y::ls=>by
  rw[List.cons_append,onlyL,onlyL,onlyL_snoc F Gs x ls]
  cases fnd y F <;> cases fnd y Gs <;> rfl
theorem fix_fnd(x:List UInt8):∀ (l:List FdM)(i:Nat),(∃ k z,fIx (fun y=>y.fd.lb==x) l i=((i+k:Nat):Int)∧l[k]?=some z∧fnd x (l.map (·.fd))=some z.fd)∨(fIx (fun y=>y.fd.lb==x) l i = -1∧fnd x (l.map (·.fd))=none)
 | [],_ => .inr ⟨rfl,rfl⟩
 | y::l,i=>by
  by_cases c:(y.fd.lb==x)=true
  ·exact .inl ⟨0,y,by rw[fIx,if_pos c,Nat.add_zero],rfl,by unfold fnd;rw[List.map_cons,List.find?_cons,c]⟩
  ·have e1:fIx (fun y=>y.fd.lb==x) (y::l) i=fIx (fun y=>y.fd.lb==x) l (i+1):=by rw[fIx,if_neg c]
   have e2:fnd x ((y::l).map (·.fd))=fnd x (l.map (·.fd)):=by
    rw[List.map_cons];unfold fnd;rw[List.find?_cons]
    rw[Bool.not_eq_true] at c
    rw[c]
   rw[e1,e2]
   rcases fix_fnd x l (i+1)with⟨k,z,h1,h2,h3⟩| h
   ·exact .inl ⟨k+1,z,by rw[h1];congr 1;omega,h2,h3⟩
   ·exact .inr h
theorem uniM_nil{n:Nat}{A:Ab}{q p:List Fd×Int}{r:Int×Ab}(h:uniM n A q p []=some r):r=(0,A):=by
 cases n with
 | zero=>rw[uniM] at h;cases h
 | succ k=>rw[uniM] at h;cases h;rfl
theorem uniM_cons{n:Nat}{A:Ab}{q p:List Fd×Int}{x:List UInt8}{ls:List (List UInt8)}{r:Int×Ab}(h:uniM n A q p (x::ls)=some r):∃ k,n=k+1∧∃ r1,uniX k A q p x=some r1∧((r1.1≠0∧r=r1)∨(r1.1=0∧uniM k r1.2 q p ls=some r)):=by
 cases n with
 | zero=>rw[uniM] at h;cases h
 | succ k =>
  rw[uniM] at h
  cases e:uniX k A q p x with
  | none=>rw[e] at h;cases h
  | some r1 =>
   rw[e] at h
   obtain⟨e1,A1⟩:=r1
   dsimp only at h
   by_cases c:e1=0
   ·rw[if_neg (by rw[c];simp)] at h
    exact⟨k,rfl,_,e,.inr ⟨c,h⟩⟩
   ·rw[if_pos c] at h
    cases h
    exact⟨k,rfl,_,e,.inl ⟨c,rfl⟩⟩
theorem uniX_raw{G G':Ctx}{A A':Ab}(had:Adv G A G' A')(hA:AOk G A){n m:Nat}(hnm:n≤m){F Gs:List Fd}{ra rb:Int}{x:List UInt8}{r:Int×Ab}(hx:x ∈ lsOf F Gs)(h:uniX n A' (apFs A.s F,ra) (apFs A.s Gs,rb) x=some r):
  (∃ f g,fnd x F=some f∧fnd x Gs=some g∧fieldsA m A' f g=some r)∨(∃ f,fnd x F=some f∧fnd x Gs=none∧r=if rb=0 then absA A' f else (0,A'))∨(∃ g,fnd x F=none∧fnd x Gs=some g∧r=if ra=0 then absA A' g else (0,A')):=by
 have hab:∀ f,absA A' (apF A.s f)=absA A' f:=fun f=>by unfold absA;rw[had.farF hA]
 cases n with
 | zero=>rw[uniX] at h;cases h
 | succ k =>
  rw[uniX] at h
  simp only[fnd_ap] at h
  cases e1:fnd x F with
  | none =>
   cases e2:fnd x Gs with
   | none=>exact absurd (lsOf_mem.1 hx) (not_or.2 ⟨fnd_none.1 e1,fnd_none.1 e2⟩)
   | some g =>
    rw[e1,e2] at h
    simp only[Option.map_none,Option.map_some] at h
    rw[hab] at h
    exact .inr (.inr ⟨g,rfl,rfl,(Option.some.inj h).symm⟩)
  | some f =>
   cases e2:fnd x Gs with
   | none =>
    rw[e1,e2] at h
    simp only[Option.map_none,Option.map_some] at h
    rw[hab] at h
    exact .inr (.inl ⟨f,rfl,rfl,(Option.some.inj h).symm⟩)
   | some g =>
    rw[e1,e2] at h
    simp only[Option.map_some,had.farF hA] at h
    refine .inl ⟨f,g,rfl,rfl,?_⟩
    unfold fieldsA
    by_cases c:(presA A' (apF A'.s f) (apF A'.s g)).1≠0∨(apF A'.s f).pr=0∨(apF A'.s g).pr=0
    ·rw[if_pos c] at h ⊢;exact h
    ·rw[if_neg c] at h ⊢
     exact uni_mono (n:=k) (m:=m) (by omega) h
theorem farFs{G G':Ctx}{A A':Ab}(had:Adv G A G' A')(hA:AOk G A)(l:List Fd):apFs A'.s (apFs A.s l)=apFs A'.s l:=by
 rw[apFs_map,apFs_map,apFs_map,List.map_map]
 exact List.map_congr_left (fun f _=>had.farF hA f)
theorem apRow_congr{s:Sub}{o p:List Fd}(h:apFs s o=apFs s p)(r:Int):apRow s o r=apRow s p r:=by unfold apRow;rw[h]
theorem restA_congr{A:Ab}{o p:List Fd}(h:apFs A.s o=apFs A.s p)(v r:Int):restA A v o r=restA A v p r:=by unfold restA;rw[apRow_congr h]
theorem restsA_congr{A:Ab}{a b:Int}{o1 o2 p1 p2:List Fd}(h1:apFs A.s o1=apFs A.s p1)(h2:apFs A.s o2=apFs A.s p2):restsA A a b o1 o2=restsA A a b p1 p2:=by
 have l1:o1.length=p1.length:=by have:=congrArg List.length h1;rwa [apFs_map,apFs_map,List.length_map,List.length_map] at this
 have l2:o2.length=p2.length:=by have:=congrArg List.length h2;rwa [apFs_map,apFs_map,List.length_map,List.length_map] at this
 unfold restsA
 rw[l1,l2,restA_congr h1,restA_congr h2]
 by_cases ha:a=0
 ·rw[if_pos ha,if_pos ha]
 ·rw[if_neg ha,if_neg ha]
  have e2:restA { A with most:=A.most+1 } a o2 (A.most+1)=restA { A with most:=A.most+1 } a p2 (A.most+1):=restA_congr (A:={ A with most:=A.most+1 }) h2 _ _
  dsimp only
  rw[e2]
  have e1:apFs (restA { A with most:=A.most+1 } a p2 (A.most+1)).2.s o1=apFs (restA { A with most:=A.most+1 } a p2 (A.most+1)).2.s p1:=by
   unfold restA
   split
   ·exact h1
   ·show apFs (cmp _ A.s) o1=apFs (cmp _ A.s) p1
    have hu:(Sub.rwB a (apRow A.s p2 (A.most+1))).ok:=by
     unfold Sub.ok Sub.rwB
     simp only
     rw[if_neg (fun e=>ha e.symm)]
    rw[← apFs_cmp _ _ hu,h1,apFs_cmp _ _ hu]
  rw[restA_congr e1]
section
attribute [local go_sem ↓] Go.wp_at_zero Go.wp_at_succ
section
open Go.RowKit Go.Sort
variable [LoB]
variable [Ex]
section
variable {P:Program} (w:World)
theorem run_append_no(t ty e:TypeId)(i:TypeInfo)(ht:P.underlying t=some (.slice e))(hi:P.info? e=some i)(B:Option Addr)(n cap c:Nat)(h:n≤cap):
  (Builtin.append_ #[t,t] ty #[.slice B n cap,.slice none 0 c]).run P w = .ok (.slice B n cap) w:=by
 cases B <;> simp[Builtin.append_,run_underlying ht,sizeOf,typeInfo,hi,Builtin.lenOf,h,Builtin.firstCells,storeCells]
theorem run_append_any(t ty e:TypeId)(i:TypeInfo)(z:Value)(size bytes:Nat)(ht:P.underlying t=some (.slice e))(hi:P.info? e=some i)(hz:i.zero=some z)
  (hsize:i.size=size) (hby:i.bytes=bytes) (hzs:z.cells.size=size) (hsz:0<size)
  (v:Value) (n:Nat) (xs:List Value) (hown:w.ownsRow 0 e size v n xs)
  (A2:Option Addr) (m c:Nat) (news:List Value) (hl:news.length=m * size) (h0:A2=none→m=0) (hnews:∀ ad,A2=some ad→∀ j u,news[j]?=some u→w.cell? (ad.add j)=some u) (h1:∀ u ∈ news,u.oneCell'=true)
  (h63:n+m≤maxLen) (hbytes:(n+m)* bytes≤140737488355328):
  ∃ v' w',(Builtin.append_ #[t,t] ty #[v,.slice A2 m c]).run P w = .ok v' w'∧w'.ownsRow 0 e size v' (n+m) (xs++news)∧w.grownBy w' v.ownBlock∧FpOf v v' w.heap.size:=by
 cases A2 with
 | some ad=>exact run_append_fp w t ty e i z size bytes ht hi hz hsize hby hzs hsz v n xs hown ad m c news hl (hnews ad rfl) h1 h63 hbytes
 | none =>
  have hm:=h0 rfl
  subst hm
  have hn:news=[]:=List.eq_nil_of_length_eq_zero (by rw[hl];omega)
  subst hn
  refine⟨v,w,?_,by rw[List.append_nil,Nat.add_zero];exact hown,⟨rfl,rfl,rfl,Nat.le_refl _,fun _ _ _=>rfl⟩,fun g hg => .inl hg⟩
  rcases hown.2 with⟨rfl,rfl⟩| ⟨g,cap,cur,rfl,_,_,hc,_⟩
  ·exact run_append_no w t ty e i ht hi none 0 0 c (Nat.le_refl _)
  ·exact run_append_no w t ty e i ht hi _ n cap c hc
end
theorem step_append_any{P:Program}{w:World}{ops:Array Oper}{o:Oper}{a:Act}{K:Act→World→Prop}{Q:Exit→Act→World→Prop}{E:Prop}(hgd:o.guard=none)(s x:Operand)(t:TypeId)
  (ho:o.op = .call { callee:=.builtin .append,args:=#[s,x],argTypes:=#[t,t] })
  (e:TypeId) (i:TypeInfo) (z:Value) (size bytes:Nat) (ht:P.underlying t=some (.slice e)) (hi:P.info? e=some i) (hz:i.zero=some z)
  (hsize:i.size=size) (hby:i.bytes=bytes) (hzs:z.cells.size=size) (hsz:0<size)
  (v:Value) (n:Nat) (xs:List Value) (hs:a.eval s=v) (hown:w.ownsRow 0 e size v n xs)
  (A2:Option Addr) (m c:Nat) (news:List Value) (hx:a.eval x = .slice A2 m c) (hl:news.length=m * size) (h0:A2=none→m=0) (hnews:∀ ad,A2=some ad→∀ j u,news[j]?=some u→w.cell? (ad.add j)=some u) (h1:∀ u ∈ news,u.oneCell'=true)
  (h63:n+m≤maxLen) (hbytes:(n+m)* bytes≤140737488355328)
  (h:∀ v' w',w'.ownsRow 0 e size v' (n+m) (xs++news)→w.grownBy w' v.ownBlock→FpOf v v' w.heap.size→K (a.put o.dst v') w'):
  if Region.wanted o (yielded ops a.tmps)=true then Oper.wp P o a w K Q else E:=by
 have hw:Region.wanted o (yielded ops a.tmps)=true:=by simp[Region.wanted,hgd]
 rw[if_pos hw]
 obtain⟨v',w',hr,h2,h3,h4⟩:=run_append_any (P:=P) w t o.type e i z size bytes ht hi hz hsize hby hzs hsz v n xs hown A2 m c news hl h0 hnews h1 h63 hbytes
 unfold Oper.wp execOp
 simp only[ho,resolve,invoke,builtin,Sem.run_bind,Sem.run_pure,Result.andThen_ok,List.map_toArray,List.map_cons,List.map_nil,hs,hx,hr]
 exact h v' w' h2 h3 h4
section
variable {base:Nat} {w0 w w':World} {P:List UInt8→Prop} {A:Option Addr} {c:Nat} {l:List FdM}
theorem AppR.appL(h:AppR base w0 P w A c l){l2:List FdM}(hx:∀ x ∈ l2,FdOk w0 P x){A':Option Addr}{c':Nat}(hb:base≤w.heap.size)(hown:w'.ownsRow 0 44 8 (.slice A' (l.length+l2.length) c') (l.length+l2.length) (l.flatMap encF++l2.flatMap encF))(hg:w.grownBy w' (Value.slice A l.length c).ownBlock)(hfp:FpOf (.slice A l.length c) (.slice A' (l.length+l2.length) c') w.heap.size):
  AppR base w0 P w' A' c' (l++l2):=by
 have e1:(l++l2).length=l.length+l2.length:=by simp
 have e2:(l++l2).flatMap encF=l.flatMap encF++l2.flatMap encF:=by simp
 refine⟨by rw[e1,e2];exact hown,fun g e=>?_,fun z hz=>(List.mem_append.1 hz).elim (h.ok z) (hx z)⟩
 rw[e1] at e
 refine⟨?_,?_⟩
 ·rcases hfp g e with h1|h1
  ·exact(h.lo g h1).1
  ·omega
 ·rcases hown.2 with⟨hv,_⟩| ⟨g',cap,cur,hv,_,h2,_⟩
  ·rw[hv] at e;cases e
  ·rw[hv] at e;cases e;exact lt_of_heap h2
theorem RowM.news{g:Nat}(h:RowM w0 P w g l):∀ (j:Nat)(u:Value),(l.flatMap encF)[j]?=some u→w.cell? ((⟨g,0,none⟩:Addr).add j)=some u:=fun j u hu=>by
 obtain⟨cur,h1,h2,h3⟩:=h.blk
 have hj:=(List.getElem?_eq_some_iff.1 hu).1
 rw[flat_len] at hj
 have e2:(⟨g,0,none⟩:Addr).add j=⟨g,j,none⟩:=by cases j <;> simp[Addr.add]
 rw[e2,cell_of h1,h3 j hj]
 exact hu
theorem flat_one(l:List FdM):∀ u ∈ l.flatMap encF,u.oneCell'=true:=fun u hu=>by
 obtain⟨x,_,hx⟩:=List.mem_flatMap.1 hu
 exact encF_one x u hx
theorem RowV.news{W:World}{base:Nat}(h:RowV w P W l A c base):(A=none→l.length=0)∧∀ ad,A=some ad→∀ (j:Nat)(u:Value),(l.flatMap encF)[j]?=some u→W.cell? (ad.add j)=some u:=by
 rcases h with⟨rfl,_,rfl⟩| ⟨g,rfl,_,hrm,_⟩
 ·exact⟨fun _=>rfl,fun ad e=>(by cases e)⟩
 ·exact⟨fun e=>(by cases e),fun ad e=>(by cases e;exact hrm.news)⟩
theorem RowV.ok{W:World}{base:Nat}(h:RowV w P W l A c base):∀ x ∈ l,FdOk w P x:=by
 rcases h with⟨_,_,rfl⟩| ⟨g,_,_,hrm,_⟩
 ·exact fun x hx=>by cases hx
 ·exact hrm.ok
theorem own_any{T:TypeId}{size n:Nat}{v:Value}{xs:List Value}(h:w.ownsRow 0 T size v n xs):∃ A c,v = .slice A n c:=by
 rcases h.2 with⟨rfl,rfl⟩| ⟨g,cap,cur,rfl,_⟩
 ·exact⟨_,_,rfl⟩
 ·exact⟨_,_,rfl⟩
end
theorem sv_clone{w W:World}{P:List UInt8→Prop}{l:List FdM}{A:Option Addr}{c base:Nat}(h:RowV w P W l A c base)(hl:l.length≤1073741824):
  Calls Tryz.prog 63 #[.slice A l.length c] W fun e w'=>∃ A' c',e = .returned (.slice A' l.length c')∧AppR W.heap.size w P w' A' c' l∧Fr [] W w':=by
 have q22:∀ (w:World) (a:Option Addr) (n c n' c':Nat),(binOp .eql 23 (.slice a n c) (.slice none n' c')).run Tryz.prog w = .ok (.bool a.isNone) w:=fun w a n c n' c'=>Lib.run_eql_slice_nil w _ _ a n c n' c' Tryz.underlying23
 have hok:=h.ok
 rcases h with⟨rfl,rfl,rfl⟩| ⟨g,rfl,hb,hrm,hcap⟩
 ·have HF:=Lib.hid (Fr.refl [] W)
  have HN:=Lib.hid (AppR.nil W.heap.size w W P)
  clear hok
  go_enter Tryz.func63,Tryz.ntmps63
  go_wp2_with fail
  go_ret
  exact⟨none,0,rfl,HN.out,HF.out⟩
 ·obtain⟨i0,hi,hz0,hz1,hz2⟩:=info_parts infoFd
  have HI:=Lib.hid hi
  have HZ0:=Lib.hid hz0
  have HZ1:=Lib.hid hz1
  have HZ2:=Lib.hid hz2
  have HK:=Lib.hid hok
  have HN:=Lib.hid hrm.news
  have hlt:=hrm.lt
  clear hi hz0 hz1 hz2 hok hrm
  go_enter Tryz.func63,Tryz.ntmps63
  go_wp2_with (at_builtin;refine wpList_append_fp _ rfl _ _ 23 rfl 44 i0 _ 8 104 Tryz.underlying23 HI.out HZ0.out HZ1.out HZ2.out rfl (by decide) (.slice (some ⟨W.heap.size,0,none⟩) 0 0) 0 [] rfl (World.ownsRow_made (base:=0) W #[] 0 (Nat.zero_le _) (Nat.zero_le _) rfl) ⟨g,0,none⟩ l.length c (l.flatMap encF) rfl (flat_len l) (fun k u hu=>by have:=HN.out k u hu;exact(((Fr.refl [] W).alloc (.cells #[] 44)).cell (p:=(⟨g,0,none⟩:Addr).add k) (World.block_lt_of_cell? W _ this) (fun x=>by cases x)).trans this) (flat_one l) (by simp only[maxLen];omega) (by omega) ?_;intro v9 w9 hown9 hgrow9 hfp9)
  go_ret
  rw[Nat.zero_add,List.nil_append] at hown9
  obtain⟨A',c',rfl⟩:=own_any hown9
  refine⟨A',c',rfl,⟨hown9,fun g' e=>⟨?_,?_⟩,HK.out⟩,?_⟩
  ·rcases hfp9 g' e with h|h
   ·simp[Value.ownBlock] at h;omega
   ·simp at h;omega
  ·rcases hown9.2 with⟨hv,_⟩| ⟨g2,cap,cur,hv,_,h2,_⟩
   ·rw[hv] at e;cases e
   ·rw[hv] at e;cases e;exact lt_of_heap h2
  ·exact((Fr.refl [] W).alloc _).grown hgrow9 (fun k e=>by simp[Value.ownBlock] at e;exact .inr (by omega))
theorem infoSt:(Tryz.prog.info? 9).map (fun i=>(i.zero,i.size,i.bytes))=some (some (.string ⟨#[]⟩),1,16):=by kernel_rfl
structure AppS (base:Nat)(w:World)(A:Option Addr)(c:Nat)(ls:List (List UInt8)):Prop where
 own:w.ownsRow 0 9 1 (.slice A ls.length c) ls.length (ls.map encStr)
 lo:∀ g,(Value.slice A ls.length c).ownBlock=some g→base≤g∧g<w.heap.size
def LabAt(base:Nat)(w:World)(A:Option Addr)(zs:List (List UInt8)):Prop:=zs=[]∨∃ g cur,A=some ⟨g,0,none⟩∧base≤g∧w.heap[g]?=some (.cells cur 9 (0,0))∧∀ (i:Nat)(x:List UInt8),zs[i]?=some x→cur[i]?=some (encStr x)
def aBlk(A:Option Addr):List Nat:=match A with
 | some a=>[a.block]
 | none=>[]
section
variable {base:Nat} {w w':World} {A:Option Addr} {c:Nat} {ls:List (List UInt8)}
theorem AppS.nil(base:Nat)(w:World):AppS base w none 0 []:=⟨⟨rfl,.inl ⟨rfl,rfl⟩⟩,fun g h=>(by cases h)⟩
theorem AppS.keep{L:List Nat}(h:AppS base w A c ls)(hf:Fr L w w')(hL:∀ x ∈ L,x<base):AppS base w' A c ls :=
 ⟨ownsRow_fr h.own hf (fun g e hg=>by have:=hL g hg;have:=(h.lo g e).1;omega),fun g e=>⟨(h.lo g e).1,Nat.lt_of_lt_of_le (h.lo g e).2 hf.size⟩⟩
theorem AppS.app(h:AppS base w A c ls){x:List UInt8}{A':Option Addr}{c':Nat}(hb:base≤w.heap.size)(hown:w'.ownsRow 0 9 1 (.slice A' (ls.length+1) c') (ls.length+1) (ls.map encStr++[encStr x]))(hfp:FpOf (.slice A ls.length c) (.slice A' (ls.length+1) c') w.heap.size):AppS base w' A' c' (ls++[x]):=by
 have e1:(ls++[x]).length=ls.length+1:=by simp
 refine⟨by rw[e1,List.map_append];exact hown,fun g e=>?_⟩
 rw[e1] at e
 refine⟨?_,?_⟩
 ·rcases hfp g e with h1|h1
  ·exact(h.lo g h1).1
  ·omega
 ·rcases hown.2 with⟨hv,_⟩| ⟨g',cap,cur,hv,_,h2,_⟩
  ·rw[hv] at e;cases e
  ·rw[hv] at e;cases e;exact lt_of_heap h2
theorem AppS.form(h:AppS base w A c ls):(A=none∧c=0∧ls=[])∨∃ g cur,A=some ⟨g,0,none⟩∧base≤g∧g<w.heap.size∧w.heap[g]?=some (.cells cur 9 (0,0))∧ls.length≤c∧c≤maxLen∧cur.size=c∧∀ (i:Nat)(x:List UInt8),ls[i]?=some x→cur[i]?=some (encStr x):=by
 rcases h.own.2 with⟨hv,hn⟩| ⟨g,cap,cur,hv,_,h2,h3,h4,h5,h6⟩
 ·injection hv with h1 h2 h3
  exact .inl ⟨h1,h3,List.length_eq_zero_iff.1 hn⟩
 ·injection hv with e1 e2 e3
  subst e1;subst e3
  obtain⟨k1,k2⟩:=h.lo g rfl
  refine .inr ⟨g,cur,rfl,k1,k2,h2,h3,h4,by rw[h5,Nat.mul_one],fun i x hx=>?_⟩
  have hi:=(List.getElem?_eq_some_iff.1 hx).1
  have:(ls.map encStr)[i]?=some (encStr x):=by rw[List.getElem?_map,hx];rfl
  rw[← h6,List.getElem?_take_of_lt (by omega),Array.getElem?_toList] at this
  exact this
theorem LabAt.keep{zs:List (List UInt8)}{L:List Nat}(h:LabAt base w A zs)(hf:Fr L w w')(hL:∀ g cur,w.heap[g]?=some (.cells cur 9 (0,0))→base≤g→g ∉ L):LabAt base w' A zs:=by
 rcases h with h|⟨g,cur,h1,h2,h3,h4⟩
 ·exact .inl h
 ·exact .inr ⟨g,cur,h1,h2,hf.keep h3 (hL g cur h3 h2),h4⟩
theorem LabAt.cell{zs:List (List UInt8)}(h:LabAt base w A zs){i:Nat}{x:List UInt8}(hx:zs[i]?=some x):∃ g,A=some ⟨g,0,none⟩∧w.cell? ⟨g,i,none⟩=some (.string ⟨x.toArray⟩):=by
 rcases h with h|⟨g,cur,h1,h2,h3,h4⟩
 ·rw[h] at hx;simp at hx
 ·exact⟨g,h1,by rw[cell_of h3];exact h4 i x hx⟩
theorem putCells_at{cur:Array Value}{d:List (List UInt8)}(hs:d.length≤cur.size){i:Nat}{x:List UInt8}(hx:d[i]?=some x):(putCells encStr 0 d.toArray cur)[i]?=some (encStr x):=by
 have hi:=(List.getElem?_eq_some_iff.1 hx).1
 have hic:i<cur.size:=by omega
 simp only[putCells,Array.getElem?_mapIdx,Array.getElem?_eq_getElem hic,Option.map_some]
 rw[if_pos ⟨Nat.zero_le _,by simpa using hi⟩,Nat.sub_zero,getElem!_pos _ i (by simpa using hi)]
 rw[List.getElem?_eq_getElem hi] at hx
 simp only[List.getElem_toArray]
 rw[Option.some.inj hx]
theorem fr_put(w:World)(g n:Nat)(d:Array (List UInt8))(os:Array Obj):Fr [g] w (grow (putRow encStr (Sort.ahead w n) g 0 d) os):=by
 refine⟨rfl,rfl,rfl,by simp,fun k hk hn=>?_⟩
 rw[heap_grow_old _ _ (by simpa using hk)]
 have:g≠k:=fun e=>hn (by simp[e])
 simp[putRow,mapBlock,Sort.ahead,Array.getElem?_modify,this]
theorem heap_put{w:World}{g n:Nat}{d:Array (List UInt8)}{os:Array Obj}{cur:Array Value}{T:TypeId}(h1:w.heap[g]?=some (.cells cur T (0,0))):(grow (putRow encStr (Sort.ahead w n) g 0 d) os).heap[g]?=some (.cells (putCells encStr 0 d cur) T (0,0)):=by
 rw[heap_grow_old _ _ (by simpa using lt_of_heap h1)]
 simp[putRow,mapBlock,Sort.ahead,Array.getElem?_modify,h1,onCells]
theorem holds_of{g:Nat}{cur:Array Value}{T:TypeId}{ls:List (List UInt8)}(h1:w.heap[g]?=some (.cells cur T (0,0)))(h2:∀ (i:Nat)(x:List UInt8),ls[i]?=some x→cur[i]?=some (encStr x)):Holds encStr w g 0 ls.toArray:=fun j hj=>by
 have hj':j<ls.length:=by simpa using hj
 refine⟨?_,frozen_of h1 _⟩
 rw[Nat.zero_add,cell_of h1,h2 j _ (List.getElem?_eq_getElem hj'),getElem!_pos _ j hj]
 simp
theorem sv_sortS(h:AppS base w A c ls)(hl:ls.length≤2147483648):
  Calls Tryz.prog 64 #[.slice A ls.length c] w fun e w'=>e = .returned (.tuple #[])∧AppS base w' A c (ls.mergeSort fun x y=>decide (x≤y))∧Fr (aBlk A) w w':=by
 rcases h.form with⟨rfl,rfl,rfl⟩| ⟨g,cur,rfl,h1,h2,h3,h4,h5,h6,h7⟩
 ·refine(Tryz.slices_Sort_string_none none 0 w).mono ?_
  rintro e w' ⟨rfl,rfl⟩
  exact⟨rfl,by simpa using h,Fr.refl _ _⟩
 ·refine(Tryz.slices_Sort_string g 0 c ls w (holds_of h3 h7) h2 (by omega)).mono ?_
  rintro e w' ⟨rfl,n,os,rfl⟩
  have hf:=fr_put w g n (ls.mergeSort fun x y=>decide (x≤y)).toArray os
  have hlen:(ls.mergeSort fun x y=>decide (x≤y)).length=ls.length:=List.length_mergeSort ls
  have hh:=heap_put (n:=n) (d:=(ls.mergeSort fun x y=>decide (x≤y)).toArray) (os:=os) h3
  generalize ls.mergeSort (fun x y=>decide (x≤y))=ms at *
  refine⟨rfl,⟨⟨by simp,.inr ⟨g,c,_,by rw[hlen],Nat.zero_le _,hh,by omega,h5,by simp[putCells];omega,?_⟩⟩,fun g' e=>?_⟩,hf⟩
  ·apply List.ext_getElem?
   intro i
   by_cases hi:i<ms.length
   ·rw[List.getElem?_take_of_lt (by omega),Array.getElem?_toList,putCells_at (by omega) (List.getElem?_eq_getElem hi),List.getElem?_map,List.getElem?_eq_getElem hi];rfl
   ·rw[List.getElem?_eq_none (by rw[List.length_take];omega),List.getElem?_eq_none (by rw[List.length_map];omega)]
  ·cases e
   exact⟨h1,Nat.lt_of_lt_of_le h2 hf.size⟩
theorem sv_compactS(h:AppS base w A c ls)(hl:ls.length≤2147483648):
  Calls Tryz.prog 65 #[.slice A ls.length c] w fun e w'=>e = .returned (.slice A (Lib.compact ls).length c)∧LabAt base w' A (Lib.compact ls)∧Fr (aBlk A) w w':=by
 rcases h.form with⟨rfl,rfl,rfl⟩| ⟨g,cur,rfl,h1,h2,h3,h4,h5,h6,h7⟩
 ·refine(Tryz.slices_Compact_string_empty none 0 w).mono ?_
  rintro e w' ⟨rfl,rfl⟩
  exact⟨rfl,.inl rfl,Fr.refl _ _⟩
 ·refine(Tryz.slices_Compact_string g 0 c ls w (holds_of h3 h7) (by omega) h4).mono ?_
  rintro e w' ⟨rfl,n,rfl⟩
  have hf:=fr_put w g n (Lib.compact ls++List.replicate (ls.length-(Lib.compact ls).length) []).toArray #[]
  have hh:=heap_put (n:=n) (d:=(Lib.compact ls++List.replicate (ls.length-(Lib.compact ls).length) []).toArray) (os:=#[]) h3
  rw[grow_empty] at hf hh
  refine⟨rfl,.inr ⟨g,_,rfl,h1,hh,fun i x hx=>?_⟩,hf⟩
  have hi:=(List.getElem?_eq_some_iff.1 hx).1
  have hcl:=Lib.compact_length_le ls
  refine putCells_at ?_ (by rw[List.getElem?_append_left hi];exact hx)
  rw[List.length_append,List.length_replicate]
  omega
end
end
section
variable [LoB]
attribute [local instance] Ex.no
theorem bytesLess_lt:∀ a b:List UInt8,Op.bytesLess a b=ltB a b
 | [],[]=>rfl
 | [],_::_=>rfl
 | _::_,[]=>rfl
 | a::x,b::y=>by
  rw[Op.bytesLess,ltB,bytesLess_lt x y]
  have e1:decide (a<b)=decide (a.toNat<b.toNat):=by simp[UInt8.lt_iff_toNat_lt]
  have e2:(a==b)=(a.toNat==b.toNat):=by rw[Bool.eq_iff_iff];simp[UInt8.toNat_inj]
  rw[e1,e2]
def OA(O:Nat→Prop)(Y:Option Addr):Nat→Prop:=fun b=>O b∧∀ a,Y=some a→b≠a.block
section
variable {w w':World} {base Lb Mn Mr:Nat} {O O':Nat→Prop} {G:Ctx} {ln:List (Int×Int)} {lr:List (Int×(Int×List (List UInt8)))}
theorem StsAt.keepO{A:Option Addr}{zs:List (List UInt8)}{L:List Nat}(h:StsAt w O A zs)(hf:Fr L w w')(hL:∀ g,O g→g<w.heap.size→g ∉ L∧O' g):StsAt w' O' A zs:=by
 rcases h with h|⟨g,h1,h2,h3,⟨cs,h4⟩,h5⟩
 ·exact .inl h
 ·obtain⟨hn,ho⟩:=hL g h2 h3
  exact .inr ⟨g,h1,ho,Nat.lt_of_lt_of_le h3 hf.size,⟨cs,hf.keep h4 hn⟩,fun i x hi=>(hf.cell (p:=⟨g,i,none⟩) h3 hn).trans (h5 i x hi)⟩
theorem PLook.keepO{L:List Nat}(h:PLook w base O G Lb Mn Mr ln lr)(hf:Fr L w w')(hL:∀ x ∈ L,x≠Lb∧x≠Mn∧x≠Mr)(hO:∀ g,O g→g<w.heap.size→g ∉ L∧O' g):PLook w' base O' G Lb Mn Mr ln lr :=
 ⟨hf.keep h.blk (fun x=>(hL _ x).1 rfl),h.mn.keep hf (fun m e x=>by cases e;exact(hL _ x).2.1 rfl) (fun _ _ x=>x),h.mr.keep hf (fun m e x=>by cases e;exact(hL _ x).2.2 rfl) (fun _ _ x=>by
  obtain⟨A,c,h1,h2⟩:=x
  exact⟨A,c,h1.keepO hf hO,h2⟩),h.ne,h.lo,h.kn,h.kr⟩
theorem PLook.imp(h:PLook w base O G Lb Mn Mr ln lr)(ho:∀ g,O g→O' g):PLook w base O' G Lb Mn Mr ln lr :=
 h.keepO (Fr.refl [] w) (fun x hx=>by cases hx) (fun g hg _=>⟨fun x=>(by cases x),ho g hg⟩)
theorem PLook.put(h:PLook w base O G Lb Mn Mr ln lr){r k:Int}{L:List (List UInt8)}{Y:Option Addr}{cy:Nat}(hG:G r = .rw k L)(hs:StsAt w O Y L)(hl:L.length≤1073741824):∃ w':World,(Instr.mapUpdate 63 (.map (some Mr)) (.int .i64 r) (.agg #[.int .i64 k,.slice Y L.length cy])).run Tryz.prog w = .ok () w'∧PLook w' base O G Lb Mn Mr ln ((r,(k,L))::lr)∧Fr [Mr] w w':=by
 obtain⟨es,n,hm,he⟩:=h.mr.lt
 have hnc:∀ x ∈ [Mr],∀ cs,w.heap[x]?≠some (.cells cs 9 (0,0)):=fun x hx cs e=>by simp at hx;subst hx;rw[hm] at e;cases e
 have hv:BhV w O (k,L) (.agg #[.int .i64 k,.slice Y L.length cy]):=⟨Y,cy,hs,hl,rfl⟩
 have fin:∀ es' n',MpE (BhV w O) es' ((r,(k,L))::lr)→PLook (mapW w Mr (.map es' n')) base O G Lb Mn Mr ln ((r,(k,L))::lr):=fun es' n' he' =>
  ⟨(mapW_fr w Mr _).keep h.blk (by simp;exact h.nb.2),h.mn.keep (mapW_fr w Mr _) (fun m e hx=>by cases e;simp at hx;exact h.ne hx) (fun _ _ x=>x),.inr ⟨Mr,es',n',rfl,mapW_at _ (lt_of_heap hm),he'.imp (fun _ _ x=>x.keep (mapW_fr w Mr _) hnc)⟩,h.ne,h.lo,h.kn,fun u q hu=>by
   rw[lk] at hu
   by_cases c:r=u
   ·rw[if_pos c] at hu;cases hu;rw[← c];exact hG
   ·rw[if_neg c] at hu;exact h.kr u q hu⟩
 cases hl2:lk r lr with
 | none=>exact⟨_,map_put Tryz.underlying63 Tryz.underlying3 _ hm (he.no r hl2),fin _ _ (he.push hl2 hv n),mapW_fr _ _ _⟩
 | some y =>
  obtain⟨j,e,h1,h2,h3,h4⟩:=he.put (u:=.agg #[.int .i64 k,.slice Y L.length cy]) (y:=(k,L)) hl2 hv
  exact⟨_,map_over Tryz.underlying63 Tryz.underlying3 _ hm h1 h2 h3,fin _ _ h4,mapW_fr _ _ _⟩
end
theorem zeroBh(w:World):(zeroValue 114).run Tryz.prog w = .ok (.agg #[.int .i64 0,.slice none 0 0]) w:=by kernel_rfl
theorem eqS{w:World}{O:Nat→Prop}{A Y:Option Addr}{c d base:Nat}{zs:List (List UInt8)}(h1:StsAt w O A zs)(h2:AppS base w Y d zs)(hz:zs.length≤1073741824):Calls Tryz.prog 80 #[.slice A zs.length c,.slice Y zs.length d] w fun e w'=>e = .returned (.bool true)∧Fr [] w w':=by
 have h0:zs=[]→Calls Tryz.prog 80 #[.slice A zs.length c,.slice Y zs.length d] w fun e w'=>e = .returned (.bool true)∧Fr [] w w':=fun e=>by
  subst e
  refine(Tryz.slices_Equal_string_empty A Y c 0 d w (by omega)).mono ?_
  rintro e w' ⟨rfl,rfl⟩
  exact⟨by simp,Fr.refl [] _⟩
 rcases h1 with e|⟨g,rfl,_,_,_,k1⟩
 ·exact h0 e
 ·rcases h2.form with⟨_,_,e⟩| ⟨g2,cur,rfl,_,_,k2,_,_,_,k3⟩
  ·exact h0 e
  ·refine(Tryz.slices_Equal_string g 0 zs.length c g2 0 zs.length d (zs.map fun x=>⟨x.toArray⟩) (zs.map fun x=>⟨x.toArray⟩) w (by simp) (by simp) (by omega) (by omega) (fun j hj=>?_) (fun j hj=>?_)).mono ?_
   ·have hj':j<zs.length:=by simpa using hj
    rw[Nat.zero_add,k1 j _ (List.getElem?_eq_getElem hj')]
    simp[List.getD,List.getElem?_map,List.getElem?_eq_getElem hj']
   ·have hj':j<zs.length:=by simpa using hj
    rw[Nat.zero_add,cell_of k2,k3 j _ (List.getElem?_eq_getElem hj')]
    simp[encStr,List.getD,List.getElem?_map,List.getElem?_eq_getElem hj']
   ·rintro e w' ⟨rfl,n,rfl⟩
    exact⟨by simp,(Fr.refl [] w).drewN n⟩
theorem AppS.sts{w:World}{O:Nat→Prop}{base:Nat}{Y:Option Addr}{d:Nat}{zs:List (List UInt8)}(h:AppS base w Y d zs)(hO:∀ g,base≤g→O g):StsAt w O Y zs:=by
 rcases h.form with⟨_,_,e⟩| ⟨g,cur,rfl,k0,k1,k2,_,_,_,k3⟩
 ·exact .inl e
 ·exact .inr ⟨g,rfl,hO g k0,k1,⟨cur,k2⟩,fun i x hx=>by rw[cell_of k2,k3 i x hx] <;> rfl⟩
theorem prow_any{N:Nat}(ih:PMC N){w W:World}{P:List UInt8→Prop}{O:Nat→Prop}{G:Ctx}{k rest:Int}{fs:List Fd}{B:Option Addr}{d Lb Mn Mr:Nat}{ln:List (Int×Int)}{lr:List (Int×(Int×List (List UInt8)))}(hN:rzFs fs≤N)(hW:Fr [] w W)(wf:WfFs G fs)(ro:RowOk G k (fun _=>False) fs rest)(hL:LimFs fs)(hfl:fs.length≤1073741824)(hP:Few P)(hO:∀ g,W.heap.size≤g→O g)
  (ht:FsAt w (okW w) P (.slice B fs.length d) fs) (h:PLook W w.heap.size O G Lb Mn Mr ln lr):
  Calls Tryz.prog 52 #[.pointer (some ⟨Lb,0,none⟩),.int .i64 k,.agg #[.slice B fs.length d,.int .i64 rest]] W (PAns w W O G Lb Mn Mr):=by
 obtain⟨ro1,ro2,ro3⟩:=ro
 have f0:=(Fr.refl [] W).alloc (.cells #[.slice B fs.length d,.int .i64 rest] 25)
 have g0:=heap_new W (.cells #[.slice B fs.length d,.int .i64 rest] 25)
 obtain⟨⟨l0,l1⟩,_⟩:=cells2 g0
 have hgs:=lt_of_heap g0
 obtain⟨i1,hi,hz0,hz1,hz2⟩:=info_parts infoSt
 have HI:=Lib.hid hi
 have HZ0:=Lib.hid hz0
 have HZ1:=Lib.hid hz1
 have HZ2:=Lib.hid hz2
 have HF0:=Lib.hid (f0.mono (L':=[Lb,Mn,Mr]) (fun x hx=>by cases hx))
 have HG0:=Lib.hid g0
 have HL0:Hid (∃ ln' lr',PLook (W.alloc (.cells #[.slice B fs.length d,.int .i64 rest] 25)) w.heap.size (OA O none) G Lb Mn Mr ln' lr'):=Lib.hid ⟨_,_,(h.fr0 f0).imp (fun b hb=>⟨hb,fun a e=>by cases e⟩)⟩
 have hlt:=h.lt
 have hlo:=h.lo
 have hww:=hW.size
 have HW:=Lib.hid hW
 have HFS:=Lib.hid ht
 have HWF:=Lib.hid ((wfFs_iff G _).1 wf)
 have HLF:=Lib.hid (limFs_iff.1 hL)
 have R1:=Lib.hid ro1
 have R2:=Lib.hid ro2
 have R3:=Lib.hid ro3
 have HP:=Lib.hid hP
 have HO:=Lib.hid hO
 have IH:=Lib.hid ih
 have HN:=Lib.hid hN
 have HA0:=Lib.hid (AppS.nil (W.heap.size+1) (W.alloc (.cells #[.slice B fs.length d,.int .i64 rest] 25)))
 clear hi hz0 hz1 hz2 f0 g0 h hW ht wf hL ro1 ro2 ro3 hP ih hN hO
 go_enter Tryz.func52,Tryz.ntmps52
 go_wp2_with fail
 generalize W.alloc (.cells #[.slice B fs.length d,.int .i64 rest] 25)=x at *
 generalize hT:W.heap.size=T at *
 go_loopw [7,15] (fun lv iv wr=>∃ (i:Nat) (Y:Option Addr) (cy:Nat),lv = .slice Y i cy∧iv = .int .i64 i∧i≤fs.length∧Hid (AppS (T+1) wr Y cy (labs (fs.take i)))∧Hid (∃ ln' lr',PLook wr w.heap.size (OA O Y) G Lb Mn Mr ln' lr')∧Hid (Fr [Lb,Mn,Mr] W wr)∧Hid (wr.heap[T]?=some (.cells #[.slice B fs.length d,.int .i64 rest] 25 (0,0)))) (fun lv iv wr=>fs.length-(intOf iv).toNat)
 case atStart=>exact⟨0,none,0,rfl,rfl,by omega,HA0,HL0,HF0,HG0⟩
 case round =>
  obtain⟨i,Y,cy,rfl,rfl,hi,HAS,HL,HF,HG⟩:=hrel
  clear HA0 HL0 HF0 HG0 l0 l1 hgs
  have q1:(0:Int)≤(i:Int):=by omega
  obtain⟨⟨l0,l1⟩,_⟩:=cells2 HG.out
  have hgs:=lt_of_heap HG.out
  by_cases hlt2:i<fs.length
  ·have hx:fs[i]?=some fs[i]:=List.getElem?_eq_getElem hlt2
   generalize fs[i]=f at hx
   have q2:(i:Int)<(fs.length:Int):=by omega
   have hfm:=List.mem_of_getElem? hx
   have fw:Fr [] w wr:=HW.out.step HF.out (fun x hx => .inr (by simp at hx;omega))
   obtain⟨gb,og,rfl,hok,hgb,Bf,df,Df,ef,hty,x0,x1,x2,x3,x4,x5,x6,x7⟩:=HFS.out.at hx
   replace x0:=(fw.cell (p:=⟨gb,og+i * 8,none⟩) hgb (fun x=>by cases x)).trans x0
   replace x1:=(fw.cell (p:=⟨gb,og+i * 8+1,none⟩) hgb (fun x=>by cases x)).trans x1
   replace x2:=(fw.cell (p:=⟨gb,og+i * 8+2,none⟩) hgb (fun x=>by cases x)).trans x2
   replace x3:=(fw.cell (p:=⟨gb,og+i * 8+3,none⟩) hgb (fun x=>by cases x)).trans x3
   replace x4:=(fw.cell (p:=⟨gb,og+i * 8+4,none⟩) hgb (fun x=>by cases x)).trans x4
   replace x5:=(fw.cell (p:=⟨gb,og+i * 8+5,none⟩) hgb (fun x=>by cases x)).trans x5
   replace x6:=(fw.cell (p:=⟨gb,og+i * 8+6,none⟩) hgb (fun x=>by cases x)).trans x6
   replace x7:=(fw.cell (p:=⟨gb,og+i * 8+7,none⟩) hgb (fun x=>by cases x)).trans x7
   have hgw:gb<wr.heap.size:=Nat.lt_of_lt_of_le hgb fw.size
   have hprev:(i=0)∨(∃ p,0<i∧wr.cell? ⟨gb,og+(i-1)* 8,none⟩=some (.string ⟨p.toArray⟩)∧Op.bytesLess p f.lb=true):=by
    by_cases hi0:i=0
    ·exact .inl hi0
    ·have hy:fs[i-1]?=some fs[i-1]:=List.getElem?_eq_getElem (by omega)
     obtain⟨g2,og2,e,_,hg2,_,_,_,_,_,y0,_⟩:=HFS.out.at hy
     cases e
     refine .inr ⟨_,by omega,(fw.cell (p:=⟨gb,og+(i-1)* 8,none⟩) hg2 (fun x=>by cases x)).trans y0,?_⟩
     rw[bytesLess_lt]
     have:=List.pairwise_iff_getElem.1 R1.out (i-1) i (by simp[labs];omega) (by simp[labs];omega) (by omega)
     have e2:f=fs[i]:=by rw[List.getElem?_eq_getElem hlt2] at hx;exact(Option.some.inj hx).symm
     rw[e2]
     simpa [labs] using this
   have hlb:=(R2.out f hfm).1
   have a1:(f.lb==[])=false:=beq_eq_false_iff_ne.2 hlb
   have a2:f.lb.isEmpty=false:=by cases hl:f.lb with|nil=>exact absurd hl hlb|cons=>rfl
   have f7:=(Fr.refl [] wr).alloc (.cells #[.string ⟨f.lb.toArray⟩,.int .i64 f.pr,.int .i64 f.p,.int .i64 f.t.k,.int .i64 f.t.v,.slice Bf f.t.args.length df,.slice Df f.t.fs.length ef,.int .i64 f.t.rest] 44)
   have p7:=heap_new wr (.cells #[.string ⟨f.lb.toArray⟩,.int .i64 f.pr,.int .i64 f.p,.int .i64 f.t.k,.int .i64 f.t.v,.slice Bf f.t.args.length df,.slice Df f.t.fs.length ef,.int .i64 f.t.rest] 44)
   have hz7:=World.size_alloc wr (.cells #[.string ⟨f.lb.toArray⟩,.int .i64 f.pr,.int .i64 f.p,.int .i64 f.t.k,.int .i64 f.t.v,.slice Bf f.t.args.length df,.slice Df f.t.fs.length ef,.int .i64 f.t.rest] 44)
   obtain⟨⟨u0,u1,u2,u3,u4,u5,u6,u7⟩,_⟩:=cells8 p7
   have hp7:=lt_of_heap p7
   have hN7:rzT f.t<N:=by have:=rzFs_at hx;have:=HN.out;omega
   obtain⟨ln1,lr1,hl1⟩:=HL.out
   have cF:=fun X (hX:Fr [] (wr.alloc (.cells #[.string ⟨f.lb.toArray⟩,.int .i64 f.pr,.int .i64 f.p,.int .i64 f.t.k,.int .i64 f.t.v,.slice Bf f.t.args.length df,.slice Df f.t.fs.length ef,.int .i64 f.t.rest] 44)) X)=>Lib.hid (pfield_any IH.out hN7 ((fw.trans f7).trans hX) (HWF.out f hfm) (HLF.out f hfm) HP.out (fun g hg=>(⟨HO.out g (by have h1:=HF.out.size;have h2:=f7.size;have h3:=hX.size;omega),fun a e e2=>by have h1:=(HAS.out.lo a.block (by rw[e];rfl)).2;have h2:=f7.size;have h3:=hX.size;omega⟩:OA O Y g)) hty ((hl1.fr0 f7).fr0 hX) (rest:=rest) (fun e=>(R2.out f hfm).2.2 e))
   have HX:=Lib.hid hx
   have F7:=Lib.hid f7
   have P7:=Lib.hid p7
   have l0:=kcJ f7 l0 hgs
   have l1:=kcJ f7 l1 hgs
   have hgs7:T<(wr.alloc (.cells #[.string ⟨f.lb.toArray⟩,.int .i64 f.pr,.int .i64 f.p,.int .i64 f.t.k,.int .i64 f.t.v,.slice Bf f.t.args.length df,.slice Df f.t.fs.length ef,.int .i64 f.t.rest] 44)).heap.size:=by omega
   have hgw7:gb<(wr.alloc (.cells #[.string ⟨f.lb.toArray⟩,.int .i64 f.pr,.int .i64 f.p,.int .i64 f.t.k,.int .i64 f.t.v,.slice Bf f.t.args.length df,.slice Df f.t.fs.length ef,.int .i64 f.t.rest] 44)).heap.size:=by omega
   have x0':=kcJ f7 x0 hgw
   have HPREV:Hid ((i=0)∨(∃ p,0<i∧(wr.alloc (.cells #[.string ⟨f.lb.toArray⟩,.int .i64 f.pr,.int .i64 f.p,.int .i64 f.t.k,.int .i64 f.t.v,.slice Bf f.t.args.length df,.slice Df f.t.fs.length ef,.int .i64 f.t.rest] 44)).cell? ⟨gb,og+(i-1)* 8,none⟩=some (.string ⟨p.toArray⟩)∧Op.bytesLess p f.lb=true)):=Lib.hid (hprev.imp id (fun⟨p,h1,h2,h3⟩=>⟨p,h1,kcJ f7 h2 hgw,h3⟩))
   clear hx hfm hok hty fw f7 p7 hlb hprev hl1 hN7
   go_upto_region 5 with(fail)
   generalize wr.alloc (.cells #[.string ⟨f.lb.toArray⟩,.int .i64 f.pr,.int .i64 f.p,.int .i64 f.t.k,.int .i64 f.t.v,.slice Bf f.t.args.length df,.slice Df f.t.fs.length ef,.int .i64 f.t.rest] 44)=w7 at *
   generalize hC:wr.heap.size=C at *
   clear x0 x1 x2 x3 x4 x5 x6 x7
   go_cut [46] (fun u wx=>u = .bool false∧Hid (∃ ln' lr',PLook wx w.heap.size (OA O Y) G Lb Mn Mr ln' lr')∧Hid (Fr [Lb,Mn,Mr] w7 wx))
   case first =>
    have hR:=(cF _ ((Fr.refl [] w7).drew)).out
    have fD:=(Fr.refl [] w7).drew.mono (L':=[Lb,Mn,Mr]) (fun x hx=>by cases hx)
    rcases HPREV.out with hi0|⟨pv,hi0,y1,hbl⟩
    ·refine r5_at0 a1 a2 u0 u1 u2 u3 u4 u5 u6 u7 l0 l1 hp7 hgs7 hi0 (fun w'=>(∃ ln' lr',PLook w' w.heap.size (OA O Y) G Lb Mn Mr ln' lr')∧Fr [Lb,Mn,Mr] w7.drew w') hR ?_
     rintro _ _ _ _ _ _ _ _ _ _ _ _ _ _ _ _ _ _ _ _ _ _ _ _ _ _ w6 ⟨hl6,f6⟩
     have HL6:=Lib.hid hl6
     have HF6:=Lib.hid (fD.trans f6)
     clear f6 hl6
     dsimp only
     go_wp2_with fail
     go_meet
     exact⟨rfl,HL6,HF6⟩
    ·refine r5_at1 a1 a2 u0 u1 u2 u3 u4 u5 u6 u7 l0 l1 hp7 hgs7 hi0 hlt2 hfl y1 hgw7 hbl (fun w'=>(∃ ln' lr',PLook w' w.heap.size (OA O Y) G Lb Mn Mr ln' lr')∧Fr [Lb,Mn,Mr] w7.drew w') hR ?_
     rintro _ _ _ _ _ _ _ _ _ _ _ _ _ _ _ _ _ _ _ _ _ _ _ _ _ _ w6 ⟨hl6,f6⟩
     have HL6:=Lib.hid hl6
     have HF6:=Lib.hid (fD.trans f6)
     clear f6 hl6
     dsimp only
     go_wp2_with fail
     go_meet
     exact⟨rfl,HL6,HF6⟩
   case rest =>
    obtain⟨rfl,hlc,hfc⟩:=hcut
    have hzc:=hfc.out.size
    have G8:=hfc.out.keep P7.out (by simp;omega)
    have f8:=(Fr.refl [] wc).alloc (.cells #[.string ⟨f.lb.toArray⟩] 9)
    have g8:=heap_new wc (.cells #[.string ⟨f.lb.toArray⟩] 9)
    have e1:(labs (fs.take i)).length=i:=by rw[labs,List.length_map,List.length_take];omega
    have has8:=((HAS.out.keep F7.out (fun x hx=>by cases hx)).keep hfc.out (fun x hx=>by simp at hx;omega)).keep f8 (fun x hx=>by cases hx)
    have how:=has8.own
    rw[e1] at how
    have HAS8:=Lib.hid has8
    have HOW:=Lib.hid how
    have HNS:=Lib.hid (World.news_of_block g8)
    have HE1:=Lib.hid e1
    have F8:=Lib.hid f8
    obtain⟨ln8,lr8,hl8⟩:=hlc.out
    have HL8:=Lib.hid (hl8.fr0 f8)
    have HLX:=Lib.hid hlt
    clear hlc how g8 f8 e1 has8 hl8 l0 l1 u0 u1 u2 u3 u4 u5 u6 u7 hgs hp7 x0' hgs7 hgw7
    obtain⟨⟨u0,u1,u2,u3,u4,u5,u6,u7⟩,_⟩:=cells8 G8
    have hgC:=lt_of_heap G8
    clear G8
    go_wp2_with (at_builtin;refine wpList_append_fp _ rfl _ _ 84 rfl 9 i1 _ 1 16 Tryz.underlying84 HI.out HZ0.out HZ1.out HZ2.out rfl (by decide) (.slice Y i cy) i ((labs (fs.take i)).map encStr) rfl HOW.out ⟨wc.heap.size,0,none⟩ 1 1 [encStr f.lb] rfl rfl HNS.out (by simp[Value.oneCell']) (by simp only[maxLen];omega) (by omega) ?_;intro v9 w9 hown9 hgrow9 hfp9;obtain⟨A8,c8,rfl⟩:=own_any hown9)
    have hY:∀ k,(Value.slice Y i cy).ownBlock=some k→T+1≤k:=fun k e=>(HAS8.out.lo k (by rw[HE1.out];exact e)).1
    have R1:Hid (AppS (T+1) w9 A8 c8 (labs (fs.take (i+1)))):=Lib.hid (by
     have e2:labs (fs.take (i+1))=labs (fs.take i)++[f.lb]:=by rw[List.take_add_one,HX.out];simp[labs]
     rw[e2]
     exact HAS8.out.app (by have h1:=lt_of_heap HG.out;have h2:=F7.out.size;have h3:=F8.out.size;omega) (by rw[HE1.out];exact hown9) (by rw[HE1.out];exact hfp9))
    have R4:Hid (Fr [Lb,Mn,Mr] W w9):=Lib.hid ((((HF.out.trans (F7.out.mono (fun x hx=>by cases hx))).trans hfc.out).trans (F8.out.mono (fun x hx=>by cases hx))).grown hgrow9 (fun k e => .inr (by have:=hY k e;omega)))
    have R5:Hid (∃ ln' lr',PLook w9 w.heap.size (OA O A8) G Lb Mn Mr ln' lr'):=Lib.hid ⟨_,_,HL8.out.keepO ((Fr.refl (aBlk Y) _).grown hgrow9 (fun k e => .inl (by cases Y with|none=>cases e|some a=>simp[Value.ownBlock] at e;simp[aBlk,e]))) (fun x hx=>by
      have h1:T+1≤x:=by
       cases Y with
       | none=>cases hx
       | some a=>simp[aBlk] at hx;subst hx;exact hY _ rfl
      have:=HLX.out;omega) (fun g ⟨hg1,hg2⟩ hg3=>⟨fun hx=>by
       cases Y with
       | none=>cases hx
       | some a=>simp[aBlk] at hx;exact hg2 a rfl hx,hg1,fun a e e2=>by
        subst e
        rcases hfp9 a.block rfl with h1|h1
        ·cases Y with
         | none=>cases h1
         | some a'=>simp[Value.ownBlock] at h1;exact hg2 a' rfl (e2.trans h1.symm)
        ·omega⟩)⟩
    have hgT:=Lib.hid (((Fr.refl (aBlk Y) _).grown hgrow9 (fun k e => .inl (by cases Y with|none=>cases e|some a=>simp[Value.ownBlock] at e;simp[aBlk,e]))).keep (F8.out.keep (hfc.out.keep (F7.out.keep HG.out (fun x=>by cases x)) (by simp;omega)) (fun x=>by cases x)) (fun hx=>by
     cases Y with
     | none=>cases hx
     | some a=>simp[aBlk] at hx;have:=hY a.block rfl;omega))
    clear hown9 hgrow9 hfp9
    go_roundw
    case rel=>exact⟨i+1,A8,c8,rfl,by first|rfl|simp|go_num,by omega,R1,R5,R4,hgT⟩
    case measure=>simp[intOf];omega
  ·have hie:i=fs.length:=by omega
   subst hie
   rw[List.take_length] at HAS
   have q2:¬ (fs.length:Int)<(fs.length:Int):=by omega
   by_cases hr0:rest=0
   ·subst hr0
    go_wp2_with fail
    go_ret
    obtain⟨ln9,lr9,hl9⟩:=HL.out
    exact⟨rfl,⟨_,_,hl9.imp (fun g hg=>hg.1)⟩,HF.out⟩
   ·have q3:(rest==0)=false:=beq_eq_false_iff_ne.2 hr0
    obtain⟨ln9,lr9,hl9⟩:=HL.out
    obtain⟨c0,c1⟩:=hl9.cells
    have hlt9:=hl9.lt
    go_upto_region 11 with(fail)
    have fd0:=(Fr.refl [] wr).drew
    have fd1:=((Fr.refl [] wr).alloc (.cells #[.int .i64 0,.slice none 0 0] 114)).drew
    have b1:=lt_of_heap (show(wr.drew).heap[Lb]?=_ from hl9.blk)
    have hGk:1≤rest∧G rest = .rw k (labs fs):=by
     rcases R3.out with h0|⟨h1,L,hG,hri,hiff⟩
     ·exact absurd h0 hr0
     ·exact⟨h1,by rw[hG,ri_ext hri R1.out (fun x=>(hiff x).trans (by simp))]⟩
    cases hlk:lk rest lr9 with
    | none =>
     have z0:=look_none Tryz.underlying63 Tryz.underlying3 (hl9.mr.keep fd0 (fun _ _ x=>by cases x) (fun _ _ x=>x.keep fd0 (fun x hx=>by cases hx))) hlk (zeroBh _)
     have z1:=look_none Tryz.underlying63 Tryz.underlying3 (hl9.mr.keep fd1 (fun _ _ x=>by cases x) (fun _ _ x=>x.keep fd1 (fun x hx=>by cases hx))) hlk (zeroBh _)
     have hlen:(labs fs).length=fs.length:=by simp[labs]
     have hq9:(labs fs).length≤1073741824:=by omega
     have l1d:=kcJ fd0 l1 hgs
     have c1d:=kcJ fd0 c1 hlt9.1
     go_region_held3 (fun w'=>w'.cell? ⟨T,1,none⟩=some (.int .i64 rest)∧w'.cell? ⟨Lb,1,none⟩=some (.map (some Mr))) (first|go_keep|exact⟨l1d,c1d⟩) (fail)
     all_goals(
      have F6:=fd1.drew
      have hl6:=hl9.fr0 F6
      obtain⟨d0,d1⟩:=hl6.cells
      have hlt6:=hl6.lt
      have l1e:=kcJ F6 l1 hgs
      have HA6:=HAS.out.keep F6 (fun x hx=>by cases hx)
      obtain⟨w8,hput,hP8,hF8⟩:=(hl6.imp (O':=O) (fun g hg=>hg.1)).put (Y:=Y) (cy:=cy) hGk.2 (HA6.sts (fun g hg=>HO.out g (by omega))) hq9
      rw[hlen] at hput
      have cN:=Lib.hid (pname_any hP8 (what:=3) hGk.1 (by rw[hGk.2];rfl) (by decide))
      have HR:=Lib.hid (((HF.out.trans (F6.mono (L':=[Lb,Mn,Mr]) (fun x hx=>by cases hx))).trans (hF8.mono (L':=[Lb,Mn,Mr]) (fun x hx=>by simp at hx;simp[hx]))))
      have hgs6:T<((wr.alloc (.cells #[.int .i64 0,.slice none 0 0] 114)).drew).drew.heap.size:=Nat.lt_of_lt_of_le hgs F6.size
      have d1g:=(hF8.cell (p:=⟨Lb,1,none⟩) hlt6.1 (by simp;exact hl6.nb.2)).trans d1
      have l1g:=(hF8.cell (p:=⟨T,1,none⟩) hgs6 (by simp;omega)).trans l1e
      clear F6 fd0 z0 z1 l1d c1d l0 l1 c0 c1 hlt9 hgs b1 hP8 hF8 hl6 HA6
      generalize (wr.alloc (.cells #[.int .i64 0,.slice none 0 0] 114)).drew=w6 at *
      clear fd1
      go_upto_region 13 with(fail)
      go_region_held3 (fun w'=>w'.cell? ⟨T,1,none⟩=some (.int .i64 rest)∧w'.cell? ⟨Lb,1,none⟩=some (.map (some Mr))) (first|go_keep|exact⟨l1e,d1⟩| exact⟨l1g,d1g⟩) (fail)
      go_wp2_with fail
      refine cN.out.mono ?_
      rintro e w9 ⟨rfl,hl9',f9⟩
      have HL9:=Lib.hid hl9'
      have HR9:=Lib.hid (HR.out.trans f9)
      clear hl9' f9
      go_wp2_with fail
      go_ret
      obtain⟨lnz,hz⟩:=HL9.out
      exact⟨rfl,⟨_,_,hz⟩,HR9.out⟩)
    | some q =>
     have hkr:=hl9.kr _ _ hlk
     have hqq:q=(k,labs fs):=by
      rcases R3.out with h0|⟨_,L,hG,hri,hiff⟩
      ·exact absurd h0 hr0
      ·rw[hG] at hkr
       injection hkr with h1 h2
       rw[ri_ext hri R1.out (fun x=>(hiff x).trans (by simp))] at h2
       exact Prod.ext h1.symm h2.symm
     subst hqq
     have hlen:(labs fs).length=fs.length:=by simp[labs]
     obtain⟨u,⟨A9,c9,hst,hq9,rfl⟩,hlook⟩:=look_some Tryz.underlying63 Tryz.underlying3 hl9.mr hlk
     simp only at hst hq9 hlook
     rw[hlen] at hlook
     have fd2:=((Fr.refl [] wr).alloc (.cells #[.int .i64 k,.slice A9 fs.length c9] 114)).drew
     have cE:=eqS (c:=c9) (hst.keep fd2 (fun x hx=>by cases hx)) (HAS.out.keep fd2 (fun x hx=>by cases hx)) hq9
     rw[hlen] at cE
     have CE:=Lib.hid cE
     have HST:=Lib.hid hst
     clear cE hst hkr
     have z0:=hlook _ fd0
     have z1:=hlook _ fd1
     have l1d:=kcJ fd0 l1 hgs
     have c1d:=kcJ fd0 c1 hlt9.1
     clear hlook
     go_region_held3 (fun w'=>w'.cell? ⟨T,1,none⟩=some (.int .i64 rest)∧w'.cell? ⟨Lb,1,none⟩=some (.map (some Mr))) (first|go_keep|exact⟨l1d,c1d⟩) (fail)
     all_goals(
      go_wp2_with fail
      refine CE.out.mono ?_
      rintro e w6 ⟨rfl,f6⟩
      have F6:=(fd2.trans f6).drew
      have hl6:=hl9.fr0 F6
      obtain⟨d0,d1⟩:=hl6.cells
      have hlt6:=hl6.lt
      have l1e:=kcJ F6 l1 hgs
      have HA6:=HAS.out.keep F6 (fun x hx=>by cases hx)
      obtain⟨w8,hput,hP8,hF8⟩:=(hl6.imp (O':=O) (fun g hg=>hg.1)).put (Y:=Y) (cy:=cy) hGk.2 (HA6.sts (fun g hg=>HO.out g (by omega))) hq9
      rw[hlen] at hput
      have cN:=Lib.hid (pname_any hP8 (what:=3) hGk.1 (by rw[hGk.2];rfl) (by decide))
      have HR:=Lib.hid (((HF.out.trans (F6.mono (L':=[Lb,Mn,Mr]) (fun x hx=>by cases hx))).trans (hF8.mono (L':=[Lb,Mn,Mr]) (fun x hx=>by simp at hx;simp[hx]))))
      have hgs6:T<w6.drew.heap.size:=Nat.lt_of_lt_of_le hgs F6.size
      have d1g:=(hF8.cell (p:=⟨Lb,1,none⟩) hlt6.1 (by simp;exact hl6.nb.2)).trans d1
      have l1g:=(hF8.cell (p:=⟨T,1,none⟩) hgs6 (by simp;omega)).trans l1e
      clear f6 F6 fd0 fd1 fd2 CE z0 z1 l1d c1d l0 l1 c0 c1 hlt9 hgs b1 hP8 hF8 hl6 HA6)
     all_goals(
      go_upto_region 13 with(fail)
      go_region_held3 (fun w'=>w'.cell? ⟨T,1,none⟩=some (.int .i64 rest)∧w'.cell? ⟨Lb,1,none⟩=some (.map (some Mr))) (first|go_keep|exact⟨l1e,d1⟩| exact⟨l1g,d1g⟩) (fail)
      go_wp2_with fail
      refine cN.out.mono ?_
      rintro e w9 ⟨rfl,hl9',f9⟩
      have HL9:=Lib.hid hl9'
      have HR9:=Lib.hid (HR.out.trans f9)
      clear hl9' f9
      go_wp2_with fail
      go_ret
      obtain⟨lnz,hz⟩:=HL9.out
      exact⟨rfl,⟨_,_,hz⟩,HR9.out⟩)
end
section
variable [LoB]
attribute [local instance] Ex.no
theorem ptext_int(W:World)(v rest:Int)(A B:Option Addr)(n m c d:Nat):Calls Tryz.prog 24 #[.agg #[.int .i64 2,.int .i64 v,.slice A n c,.slice B m d,.int .i64 rest]] W fun e w'=>e = .returned (.string ⟨#[105,110,116]⟩)∧Fr [] W w':=by
 have HF:=Lib.hid ((Fr.refl [] W).alloc (.cells #[.int .i64 2,.int .i64 v,.slice A n c,.slice B m d,.int .i64 rest] 27))
 have g0:=heap_new W (.cells #[.int .i64 2,.int .i64 v,.slice A n c,.slice B m d,.int .i64 rest] 27)
 obtain⟨⟨l0,l1,l2,l3,l4⟩,_⟩:=cells5 g0
 have hgs:=lt_of_heap g0
 clear g0
 go_enter Tryz.func24,Tryz.ntmps24
 go_wp2_with fail
 go_ret
 exact⟨rfl,HF.out⟩
theorem ptext_var(W:World)(v:Nat)(hv:v<100)(rest:Int)(A B:Option Addr)(n m c d:Nat):Calls Tryz.prog 24 #[.agg #[.int .i64 1,.int .i64 v,.slice A n c,.slice B m d,.int .i64 rest]] W fun e w'=>e = .returned (.string ⟨(39::Lib.decDigits v).toArray⟩)∧Fr [] W w':=by
 have f0:=(Fr.refl [] W).alloc (.cells #[.int .i64 1,.int .i64 v,.slice A n c,.slice B m d,.int .i64 rest] 27)
 have HF:=Lib.hid f0
 have g0:=heap_new W (.cells #[.int .i64 1,.int .i64 v,.slice A n c,.slice B m d,.int .i64 rest] 27)
 obtain⟨⟨l0,l1,l2,l3,l4⟩,_⟩:=cells5 g0
 have hgs:=lt_of_heap g0
 have cI:=fun X=>Lib.hid (Tryz.strconv_Itoa_small v hv X)
 have hd:(Lib.decDigits v).length≤20:=by
  rw[Lib.decDigits_length]
  by_cases h10:v<10
  ·rw[Lib.nDigits_small h10];omega
  ·rw[Lib.nDigits_big h10,Lib.nDigits_small (show v / 10<10 by omega)];omega
 have hb:¬ 9223372036854775807<1+(Lib.decDigits v).length:=by omega
 clear g0 f0
 go_enter Tryz.func24,Tryz.ntmps24
 go_wp2_with fail
 refine(cI _).out.mono ?_
 rintro e w6 ⟨rfl,rfl⟩
 go_wp2_with fail
 go_ret
 exact⟨by first|rfl|simp,HF.out⟩
end
end
section
open Go.RowKit Go.Sort
variable [LoB]
variable [Ex]
section
variable {w0 w w':World} {P:List UInt8→Prop} {Q:Nat} {M0 M1 M2:Option Nat} {G:Ctx} {R:Raw} {A:Ab} {X:Option Addr} {c base:Nat} {l:List FdM}
theorem SolU.apart(h:SolU w P Q M0 M1 M2 G R A){b:Nat}{cs:Array Value}{T:TypeId}{f:Nat×Nat}(hb:w.heap[b]?=some (.cells cs T f))(hT:T≠58):b ∉ solL Q M0 M1 M2:=h.sw.at_.apart hb hT
theorem RowV.keepL{L:List Nat}(h:RowV w0 P w l X c base)(hf:Fr L w w')(hL:∀ x ∈ L,x<base):RowV w0 P w' l X c base:=by
 rcases h with h|⟨g,h1,h2,h3,h4⟩
 ·exact .inl h
 ·exact .inr ⟨g,h1,h2,h3.keep hf (fun hx=>by have:=hL g hx;omega),h4⟩
theorem RowV.keepS(h:RowV w0 P w l X c base)(hs:SolU w P Q M0 M1 M2 G R A)(hf:Fr (solL Q M0 M1 M2) w w'):RowV w0 P w' l X c base:=by
 rcases h with h|⟨g,h1,h2,h3,h4⟩
 ·exact .inl h
 ·obtain⟨cur,k1,_⟩:=h3.blk
  exact .inr ⟨g,h1,h2,h3.keep hf (hs.apart k1 (by decide)),h4⟩
theorem AppR.keepS(h:AppR base w0 P w X c l)(hs:SolU w P Q M0 M1 M2 G R A)(hf:Fr (solL Q M0 M1 M2) w w'):AppR base w0 P w' X c l:=by
 refine h.keep2 hf (fun g e=>?_)
 rcases h.own.2 with⟨hv,_⟩| ⟨g',cap,cur,hv,_,h2,_⟩
 ·rw[hv] at e;cases e
 ·rw[hv] at e;cases e;exact hs.apart h2 (by decide)
theorem LabAt.keepS{zs:List (List UInt8)}(h:LabAt base w X zs)(hs:SolU w P Q M0 M1 M2 G R A)(hf:Fr (solL Q M0 M1 M2) w w'):LabAt base w' X zs:=h.keep hf (fun _ _ k _=>hs.apart k (by decide))
theorem LabAt.keepL{zs:List (List UInt8)}{L:List Nat}(h:LabAt base w X zs)(hf:Fr L w w')(hL:∀ x ∈ L,x<base∨w.heap.size≤x):LabAt base w' X zs:=h.keep hf (fun g _ k hb hx=>by have:=lt_of_heap k;rcases hL g hx with c|c <;> omega)
theorem AppR.rowV(h:AppR base w0 P w X c l)(hb:w0.heap.size≤base):RowV w0 P w l X c base:=h.done hb
theorem RowV.at(h:RowV w0 P w l X c base){i:Nat}{x:FdM}(hx:l[i]?=some x):∃ g,X=some ⟨g,0,none⟩∧base≤g∧g<w.heap.size∧FdOk w0 P x∧w.cell? ⟨g,i * 8,none⟩=some (.string ⟨x.fd.lb.toArray⟩)∧w.cell? ⟨g,i * 8+1,none⟩=some (.int .i64 x.fd.pr)∧w.cell? ⟨g,i * 8+2,none⟩=some (.int .i64 x.fd.p)∧
  w.cell? ⟨g,i * 8+3,none⟩=some (.int .i64 x.fd.t.k)∧w.cell? ⟨g,i * 8+4,none⟩=some (.int .i64 x.fd.t.v)∧w.cell? ⟨g,i * 8+5,none⟩=some (.slice x.A x.fd.t.args.length x.c)∧w.cell? ⟨g,i * 8+6,none⟩=some (.slice x.B x.fd.t.fs.length x.d)∧w.cell? ⟨g,i * 8+7,none⟩=some (.int .i64 x.fd.t.rest):=by
 rcases h with⟨_,_,rfl⟩| ⟨g,h1,h2,h3,h4⟩
 ·simp at hx
 ·exact⟨g,h1,h2,h3.lt,h3.ok x (List.mem_of_getElem? hx),h3.cells hx⟩
theorem RowV.lo(h:RowV w0 P w l X c base){b:Nat}(hb:b≤base):RowV w0 P w l X c b:=by
 rcases h with h|⟨g,h1,h2,h3,h4⟩
 ·exact .inl h
 ·exact .inr ⟨g,h1,by omega,h3,h4⟩
theorem RowV.labP(h:RowV w0 P w l X c base):∀ x ∈ labs (l.map (·.fd)),P x:=fun x hx=>by
 obtain⟨f,hf,rfl⟩:=labs_mem.1 hx
 obtain⟨y,hy,rfl⟩:=List.mem_map.1 hf
 exact(h.ok y hy).1
theorem RowV.len(h:RowV w0 P w l X c base)(hP:Few P)(hn:(labs (l.map (·.fd))).Nodup):l.length≤1073741824:=by
 have:=hP _ hn h.labP
 simpa [labs] using this
theorem RowV.fs(h:RowV w0 P w l X c base)(hx:∀ b,Ex.ex b→b<base)(hf:Fr [] w0 w):FsAt w (okW w) P (.slice X l.length c) (l.map (·.fd)):=by
 rcases h with⟨rfl,rfl,rfl⟩| ⟨g,rfl,h2,h3,h4⟩
 ·exact FsAt.nil none 0
 ·exact h3.fs (fun hb=>by have:=hx g hb;omega) h4 hf
end
theorem uniX_three{G G':Ctx}{A A':Ab}(had:Adv G A G' A')(hA:AOk G A){n m:Nat}(hnm:n≤m){l1 l2:List FdM}{ra rb:Int}{x:List UInt8}{r:Int×Ab}(hx:x ∈ lsOf (l1.map (·.fd)) (l2.map (·.fd)))(h:uniX n A' (apFs A.s (l1.map (·.fd)),ra) (apFs A.s (l2.map (·.fd)),rb) x=some r):
  (∃ k1 z1 k2 z2,fIx (fun y=>y.fd.lb==x) l1 0=((k1:Nat):Int)∧l1[k1]?=some z1∧fIx (fun y=>y.fd.lb==x) l2 0=((k2:Nat):Int)∧l2[k2]?=some z2∧fieldsA m A' z1.fd z2.fd=some r∧one1 (l1.map (·.fd)) (l2.map (·.fd)) x=[]∧one1 (l2.map (·.fd)) (l1.map (·.fd)) x=[])∨
  (∃ k1 z1,fIx (fun y=>y.fd.lb==x) l1 0=((k1:Nat):Int)∧l1[k1]?=some z1∧fIx (fun y=>y.fd.lb==x) l2 0 = -1∧r=(if rb=0 then absA A' z1.fd else (0,A'))∧one1 (l1.map (·.fd)) (l2.map (·.fd)) x=[z1.fd]∧one1 (l2.map (·.fd)) (l1.map (·.fd)) x=[])∨
  (∃ k2 z2,fIx (fun y=>y.fd.lb==x) l1 0 = -1∧fIx (fun y=>y.fd.lb==x) l2 0=((k2:Nat):Int)∧l2[k2]?=some z2∧r=(if ra=0 then absA A' z2.fd else (0,A'))∧one1 (l1.map (·.fd)) (l2.map (·.fd)) x=[]∧one1 (l2.map (·.fd)) (l1.map (·.fd)) x=[z2.fd]):=by
 rcases uniX_raw had hA hnm hx h with⟨f,g,e1,e2,e3⟩| ⟨f,e1,e2,e3⟩| ⟨g,e1,e2,e3⟩
 all_goals
  rcases fix_fnd x l1 0 with⟨k1,z1,a1,a2,a3⟩| ⟨a1,a3⟩<;> rcases fix_fnd x l2 0 with⟨k2,z2,b1,b2,b3⟩| ⟨b1,b3⟩
 all_goals
  rw[a3] at e1
  rw[b3] at e2
  first
   | (exfalso;simp at e1;done)
   | (exfalso;simp at e2;done)
   | skip
 all_goals
  cases e1
  cases e2
  try rw[Nat.zero_add] at a1
  try rw[Nat.zero_add] at b1
  first
   | exact .inl ⟨k1,z1,k2,z2,a1,a2,b1,b2,e3,by unfold one1;rw[a3,b3],by unfold one1;rw[a3,b3]⟩
   | exact .inr (.inl ⟨k1,z1,a1,a2,b1,e3,by unfold one1;rw[a3,b3],by unfold one1;rw[a3,b3]⟩)
   | exact .inr (.inr ⟨k2,z2,a1,b1,b2,e3,by unfold one1;rw[a3,b3],by unfold one1;rw[a3,b3]⟩)
end
end Go.Proofs.YtoimdiballicnaaGreatDoor
