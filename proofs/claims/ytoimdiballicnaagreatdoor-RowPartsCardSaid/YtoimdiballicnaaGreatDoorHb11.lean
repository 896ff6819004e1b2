/- A part of the proof: Jp2, Ca, Cb, Rw, Cs. -/
import Derived.SizedLaws
import Derived.Carry
import Derived.Deep.Slices
import Derived.ChangeArms
import Derived.KernelRfl
import Derived.Test.YtoimdiballicnaaGreatDoorCards
import Derived.Test.YtoimdiballicnaaGreatDoorTie
import Derived.Shelf.Vars
import Derived.WalkKit
import Derived.ProofKit
import Derived.OpenShut
import Derived.LaidMore
import Derived.Deep.DeepHandedRow
import Derived.Deep.DeepWitnessRowRef
import Derived.Test.YtoimdiballicnaaGreatDoorHb10
namespace Go.Proofs.YtoimdiballicnaaGreatDoor
open Go.RowKit
set_option linter.all false
set_option maxHeartbeats 16000000
set_option maxRecDepth 100000
section
attribute [local go_sem ↓] Go.wp_at_zero Go.wp_at_succ
section
variable [LoB]
attribute [local instance] Ex.no
theorem fs_one{w:World}{ok:Nat→Prop}{P:List UInt8→Prop}{g:Nat}{k v:Int}{lb:List UInt8}(h:w.heap[g]?=some (.cells #[.string ⟨lb.toArray⟩,.int .i64 1,.int .i64 0,.int .i64 k,.int .i64 v,.slice none 0 0,.slice none 0 0,.int .i64 0] 44 (0,0)))(ho:ok g)(hp:P lb):FsAt w ok P (.slice (some ⟨g,0,none⟩) 1 1) [⟨lb,1,0,.mk k v [] [] 0⟩]:=by
 refine⟨fun _=>hdF (⟨lb,1,0,.mk k v [] [] 0⟩:Fd),fun _=>[.int .i64 k,.int .i64 v,.slice none 0 0,.slice none 0 0,.int .i64 0],.inr ⟨g,0,1,rfl,ho,lt_of_heap h,Nat.le_refl _,fun i hi=>?_⟩,fun i f hi=>?_,fun i f hi=>?_⟩
 ·have hi0:i=0:=by simp at hi;exact hi
  subst hi0
  refine⟨rfl,fun j u hu=>?_⟩
  have hj:j<8:=(List.getElem?_eq_some_iff.1 hu).1
  rw[show 0+0 * 8+j=j by omega,cell_of h j]
  rcases(show j=0∨j=1∨j=2∨j=3∨j=4∨j=5∨j=6∨j=7 by omega)with rfl|rfl|rfl|rfl|rfl|rfl|rfl|rfl <;> exact hu
 ·have hi0:i=0:=by have:=(List.getElem?_eq_some_iff.1 hi).1;simp at this;exact this
  subst hi0
  cases hi
  exact⟨rfl,hp⟩
 ·have hi0:i=0:=by have:=(List.getElem?_eq_some_iff.1 hi).1;simp at this;exact this
  subst hi0
  cases hi
  exact tyAt_nil _ _ _ _ _ _ _ _ _
theorem okW_cell{w:World}{g:Nat}{cs:Array Value}{T:TypeId}{f:Nat×Nat}(h:w.heap[g]?=some (.cells cs T f))(hT:T≠58):okW w g:=⟨_,_,_,h,fun c=>absurd c hT,fun c=>c.elim⟩
theorem awA_at{w:World}{g:Nat}(h:w.heap[g]?=some (.cells #[.string ⟨#[97]⟩,.int .i64 1,.int .i64 0,.int .i64 2,.int .i64 0,.slice none 0 0,.slice none 0 0,.int .i64 0] 44 (0,0))):TyAt w (okW w) PwA awA [.int .i64 10,.int .i64 0,.slice none 0 0,.slice (some ⟨g,0,none⟩) 1 1,.int .i64 1] :=
 TyAt.iff.2 ⟨_,_,rfl,.nil _ _,fs_one (lb:=[97]) h (okW_cell h (by decide)) (.inl rfl)⟩
theorem awB_at{w:World}{g:Nat}(h:w.heap[g]?=some (.cells #[.string ⟨#[98]⟩,.int .i64 1,.int .i64 0,.int .i64 1,.int .i64 2,.slice none 0 0,.slice none 0 0,.int .i64 0] 44 (0,0))):TyAt w (okW w) PwA awB [.int .i64 10,.int .i64 0,.slice none 0 0,.slice (some ⟨g,0,none⟩) 1 1,.int .i64 3] :=
 TyAt.iff.2 ⟨_,_,rfl,.nil _ _,fs_one (lb:=[98]) h (okW_cell h (by decide)) (.inr rfl)⟩
theorem wf_awA:WfT awG awA:=wf_rec1 (wf_plain _ rfl (by decide) (by decide)) (by decide) (by decide) rfl
theorem lim_awA:LimT awA:=by unfold awA;simp[LimT,LimTs,LimFs,LimF]
theorem lawake_any{W:World}(hlo:LoB.lo≤W.heap.size):Calls Tryz.prog 8 #[] W fun e w'=>e = .returned (.bool true)∧Fr [] W w':=by
 go_enter Tryz.func8,Tryz.ntmps8
 go_wp2_with fail
 refine(sv_New W hlo).mono ?_
 rintro e w1 ⟨Q,rfl,hQ,f1,hS⟩
 have S1:=Lib.hid (hS awG PwA aw_pos aw_rise few_aw)
 have hq1:=S1.out.at_.lt
 have HF1:=Lib.hid f1
 clear hS f1
 go_wp2_with fail
 refine(lty_any _ 2).mono ?_
 rintro e w2 ⟨rfl,f2⟩
 have HF2:=Lib.hid f2
 clear f2
 go_wp2_with fail
 have gA0:=heap_new w2 (.cells #[.string ⟨#[97]⟩,.int .i64 1,.int .i64 0,.int .i64 2,.int .i64 0,.slice none 0 0,.slice none 0 0,.int .i64 0] 44)
 have fA:=(Fr.refl [] w2).alloc (.cells #[.string ⟨#[97]⟩,.int .i64 1,.int .i64 0,.int .i64 2,.int .i64 0,.slice none 0 0,.slice none 0 0,.int .i64 0] 44)
 have hz2:=World.size_alloc w2 (.cells #[.string ⟨#[97]⟩,.int .i64 1,.int .i64 0,.int .i64 2,.int .i64 0,.slice none 0 0,.slice none 0 0,.int .i64 0] 44)
 have hs2:=HF2.out.size
 generalize hA0:w2.heap.size=A0 at *
 refine(lrec_any _ 1 _ 1 1).mono ?_
 rintro e w3 ⟨rfl,f3⟩
 have gA:=Lib.hid (f3.keep gA0 (fun x=>by cases x))
 have F3:=Lib.hid (HF2.out.trans (fA.trans f3))
 have hs3:=f3.size
 clear gA0 fA f3
 have gX:=Lib.hid (((Fr.refl [] w3).alloc (.cells #[.int .i64 10,.int .i64 0,.slice none 0 0,.slice (some ⟨A0,0,none⟩) 1 1,.int .i64 1] 27)).keep gA.out (fun x=>by cases x))
 have g2:=heap_new w3 (.cells #[.int .i64 10,.int .i64 0,.slice none 0 0,.slice (some ⟨A0,0,none⟩) 1 1,.int .i64 1] 27)
 have FX:=Lib.hid (F3.out.trans ((Fr.refl [] w3).alloc (.cells #[.int .i64 10,.int .i64 0,.slice none 0 0,.slice (some ⟨A0,0,none⟩) 1 1,.int .i64 1] 27)))
 obtain⟨⟨b0,b1,b2,b3,b4⟩,_⟩:=cells5 g2
 have hgs:=lt_of_heap g2
 have HG2:=Lib.hid g2
 clear g2
 go_upto_region 5 with(fail)
 generalize w3.alloc (.cells #[.int .i64 10,.int .i64 0,.slice none 0 0,.slice (some ⟨A0,0,none⟩) 1 1,.int .i64 1] 27)=x at *
 generalize hB0:w3.heap.size=B0 at *
 have SX:=Lib.hid (S1.out.fr FX.out)
 have hBx:=hgs
 go_region_held3 (fun w'=>w'.cell? ⟨B0,0,none⟩=some (.int .i64 10)∧w'.cell? ⟨B0,1,none⟩=some (.int .i64 0)∧w'.cell? ⟨B0,2,none⟩=some (.slice none 0 0)∧w'.cell? ⟨B0,3,none⟩=some (.slice (some ⟨A0,0,none⟩) 1 1)∧w'.cell? ⟨B0,4,none⟩=some (.int .i64 1)) (first|go_keep|exact M1|exact M2|exact M3)
  ((first|((with_reducible refine(lv_any _ 2).mono ?_);rintro e x1 ⟨rfl,h1⟩;have D1:=(Fr.refl [] x).drew.trans h1;have M1:=And.intro (kcJ D1 b0 hgs) (And.intro (kcJ D1 b1 hgs) (And.intro (kcJ D1 b2 hgs) (And.intro (kcJ D1 b3 hgs) (kcJ D1 b4 hgs)))))| ((with_reducible refine(lrec_any _ 3 _ 1 1).mono ?_);rintro e x2 ⟨rfl,h2⟩;have D2:=(D1.alloc (.cells #[.string ⟨#[98]⟩,.int .i64 1,.int .i64 0,.int .i64 1,.int .i64 2,.slice none 0 0,.slice none 0 0,.int .i64 0] 44)).trans h2;have M2:=And.intro (kcJ D2 b0 hgs) (And.intro (kcJ D2 b1 hgs) (And.intro (kcJ D2 b2 hgs) (And.intro (kcJ D2 b3 hgs) (kcJ D2 b4 hgs))));have gB2:=h2.keep (heap_new x1 (.cells #[.string ⟨#[98]⟩,.int .i64 1,.int .i64 0,.int .i64 1,.int .i64 2,.slice none 0 0,.slice none 0 0,.int .i64 0] 44)) (fun x=>by cases x);have gA2:=D2.keep gX.out (fun x=>by cases x))| ((with_reducible refine(aw_call1 (SX.out.fr D2) (awA_at gA2) (awB_at gB2)).mono ?_);rintro e x3 ⟨rfl,h3,hall⟩;have hq3:=SX.out.at_.lt;have M3:=And.intro ((h3.cell (p:=⟨B0,0,none⟩) (Nat.lt_of_lt_of_le hgs D2.size) (by simp;omega)).trans M2.1) (And.intro ((h3.cell (p:=⟨B0,1,none⟩) (Nat.lt_of_lt_of_le hgs D2.size) (by simp;omega)).trans M2.2.1) (And.intro ((h3.cell (p:=⟨B0,2,none⟩) (Nat.lt_of_lt_of_le hgs D2.size) (by simp;omega)).trans M2.2.2.1) (And.intro ((h3.cell (p:=⟨B0,3,none⟩) (Nat.lt_of_lt_of_le hgs D2.size) (by simp;omega)).trans M2.2.2.2.1) ((h3.cell (p:=⟨B0,4,none⟩) (Nat.lt_of_lt_of_le hgs D2.size) (by simp;omega)).trans M2.2.2.2.2)))))))
 all_goals
  have j2:=h3.keep (D2.keep HG2.out (fun x=>by cases x)) (by simp;omega)
  have jA:=h3.keep gA2 (by simp;omega)
  have hsx2:=D2.size
  have HFx:=Lib.hid ((HF1.out.trans (FX.out.trans D2)).step h3 (fun x hx => .inr (by simp at hx;omega)))
  obtain⟨G',M0',M1',M2',R',s,ta,tb,hS3,hA3,hap,hle,hL3,h26⟩:=hall
  have HS3:=Lib.hid hS3
  have HA3:=Lib.hid hA3
  have HAP:=Lib.hid hap
  have HLE:=Lib.hid hle
  have HL3:=Lib.hid hL3
  have H26:=Lib.hid h26
  have J2:=Lib.hid j2
  have JA:=Lib.hid jA
  have hlt3:∀ x ∈ solL Q M0' M1' M2',x<x3.heap.size:=fun x hx=>(hS3.at_.not_ok x hx).2
  have HLT3:=Lib.hid hlt3
  have hsx3:=h3.size
  clear hS3 hA3 hap hle hL3 h26 jA b0 b1 b2 b3 b4 hgs M1 M2 M3 gB2 gA2 D1 h1 h2 h3 hlt3
  obtain⟨⟨b0,b1,b2,b3,b4⟩,_⟩:=cells5 j2
  have hgs:=lt_of_heap j2
  clear j2
  go_wp2_with fail
  refine(sv_Apply HS3.out (wfT_le HLE.out wf_awA) (awA_at JA.out)).mono ?_
  rintro e x4 ⟨A',c',B',d',he,hty4,hS4,h4⟩
  rw[HAP.out] at he hty4
  have he2:e = .returned (.agg #[.int .i64 10,.int .i64 0,.slice A' 0 c',.slice B' 2 d',.int .i64 4]):=he
  subst he2
  clear he
  have hse:seenT awA 4=4:=rfl
  rw[hse] at hS4
  obtain⟨v2,v3,hcs,_,hfs4⟩:=TyAt.iff.1 (show TyAt x4 _ PwA (.mk 10 0 [] (fsI 2) 4) [.int .i64 10,.int .i64 0,.slice A' 0 c',.slice B' 2 d',.int .i64 4] from hty4)
  simp only[List.cons.injEq,and_true,true_and] at hcs
  obtain⟨rfl,rfl⟩:=hcs
  have TY4:=Lib.hid hty4
  have FS4:=Lib.hid hfs4
  have HS4:=Lib.hid hS4
  have j2:=h4.keep J2.out (by simp;omega)
  have jA:=h4.keep JA.out (by simp;omega)
  have HF4:=Lib.hid (HFx.out.step h4 (fun x hx => .inr (by simp at hx;omega)))
  have hsx4:=h4.size
  have gC:=heap_new x4 (.cells #[.int .i64 10,.int .i64 0,.slice A' 0 c',.slice B' 2 d',.int .i64 4] 27)
  have fC:=(Fr.refl [] x4).alloc (.cells #[.int .i64 10,.int .i64 0,.slice A' 0 c',.slice B' 2 d',.int .i64 4] 27)
  have hz5:=World.size_alloc x4 (.cells #[.int .i64 10,.int .i64 0,.slice A' 0 c',.slice B' 2 d',.int .i64 4] 27)
  have HS5:=Lib.hid (HS4.out.fr fC)
  have JC:=Lib.hid gC
  have JA5:=Lib.hid (fC.keep jA (fun x=>by cases x))
  have J25:=Lib.hid (fC.keep j2 (fun x=>by cases x))
  have HFC:=Lib.hid fC
  clear b0 b1 b2 b3 b4 hgs hty4 hfs4 hS4 h4 j2 jA gC fC
  go_wp2_with fail
  generalize x4.alloc (.cells #[.int .i64 10,.int .i64 0,.slice A' 0 c',.slice B' 2 d',.int .i64 4] 27)=x5 at *
  generalize hC0:x4.heap.size=C0 at *
  refine(sv_fresh HS5.out.at_ (by decide) (by decide)).mono ?_
  rintro e x6 ⟨rfl,hs6,h6⟩
  have HS6:=Lib.hid (HS5.out.most hs6)
  have H6:=Lib.hid h6
  clear hs6 h6
  go_wp2_with fail
  refine(lv_any _ 9).mono ?_
  rintro e x7 ⟨rfl,h7⟩
  go_wp2_with fail
  refine(lv_any _ 9).mono ?_
  rintro e x8 ⟨rfl,h8⟩
  go_wp2_with fail
  refine(lty_any _ 2).mono ?_
  rintro e x9 ⟨rfl,h9⟩
  have H69:=Lib.hid ((h7.trans h8).trans h9)
  clear h7 h8 h9
  go_wp2_with fail
  refine(lfun_any (P:=PwA) (a:=.var 9) (b:=.mk 2 0 [] [] 0) (ok:=fun _=>False) (tyAt_nil x9 _ _ 1 9 none none 0 0) (tyAt_nil x9 _ _ 2 0 none none 0 0)).mono ?_
  rintro e x10 ⟨X,rfl,hty10,h10⟩
  have hty11:TyAt x10 (okW x10) PwA awF [.int .i64 7,.int .i64 0,.slice X 2 2,.slice none 0 0,.int .i64 0]:=hty10.keep (fun b hb hlt=>⟨by rcases hb with c|c;exact c.1.elim;exact c.2,rfl,hlt⟩)
  have HTY:=Lib.hid hty11
  have H610:=Lib.hid (H69.out.trans h10)
  clear hty10 hty11 h10
  go_wp2_with fail
  refine(aw_call2 (HS6.out.fr H610.out) HA3.out H26.out (tyAt_nil x10 _ _ 1 9 none none 0 0) HTY.out).mono ?_
  rintro e x11 ⟨rfl,h11⟩
  have hsx5:=HFC.out.size
  have F511:Fr (solL Q M0' M1' M2') x5 x11:=(H6.out.mono (fun x hx => .inl (by simp at hx;rw[hx];simp[solL]))).trans ((H610.out.mono (fun x hx=>by cases hx)).trans h11)
  have F411:Fr (solL Q M0' M1' M2') x4 x11:=(HFC.out.mono (fun x hx=>by cases hx)).trans F511
  have nB:B0 ∉ solL Q M0' M1' M2':=fun hx=>by rcases HL3.out _ hx with c|c <;> omega
  have nA:A0 ∉ solL Q M0' M1' M2':=fun hx=>by rcases HL3.out _ hx with c|c <;> omega
  have nC:C0 ∉ solL Q M0' M1' M2':=fun hx=>by have:=HLT3.out _ hx;omega
  have j2:=Lib.hid (F511.keep J25.out nB)
  have jA:=Lib.hid (F511.keep JA5.out nA)
  have jC:=Lib.hid (F511.keep JC.out nC)
  have fs:=Lib.hid (FS4.out.keep (w':=x11) (ok':=fun _=>True) (fun b hb hlt=>⟨trivial,F411.block b hlt (fun hx=>(HS4.out.at_.not_ok b hx).1 hb.1),Nat.lt_of_lt_of_le hlt F411.size⟩))
  have tyX:=Lib.hid (TY4.out.keep (w':=x11) (ok':=fun _=>True) (fun b hb hlt=>⟨trivial,F411.block b hlt (fun hx=>(HS4.out.at_.not_ok b hx).1 hb.1),Nat.lt_of_lt_of_le hlt F411.size⟩))
  have HF11:=Lib.hid (HF4.out.step F411 (fun x hx => .inr (by rcases HL3.out _ hx with c|c <;>(have h1:=HF1.out.size;have h2:=FX.out.size;omega))))
  clear h11 F511 F411
  obtain⟨⟨b0,b1,b2,b3,b4⟩,_⟩:=cells5 j2.out
  have hgs:=lt_of_heap j2.out
  obtain⟨⟨o0,o1,o2,o3,o4⟩,_⟩:=cells5 jC.out
  have hgo:=lt_of_heap jC.out
  go_wp2_with fail
  refine(ptext_row (u:=2) (r:=4) (q:=50) (q2:=52) (by decide) (by decide) (by decide) (by decide) (by decide) fs.out).mono ?_
  rintro e y1 ⟨rfl,e1⟩
  have j21:=Lib.hid (e1.keep j2.out (fun x=>by cases x))
  have jA1:=Lib.hid (e1.keep jA.out (fun x=>by cases x))
  have jC1:=Lib.hid (e1.keep jC.out (fun x=>by cases x))
  clear b0 b1 b2 b3 b4 hgs o0 o1 o2 o3 o4 hgo
  obtain⟨⟨b0,b1,b2,b3,b4⟩,_⟩:=cells5 j21.out
  have hgs:=lt_of_heap j21.out
  obtain⟨⟨o0,o1,o2,o3,o4⟩,_⟩:=cells5 jC1.out
  have hgo:=lt_of_heap jC1.out
  have E1:=Lib.hid e1
  clear e1
  go_wp2_with fail
  refine(pMay_any wf_awA lim_awA few_aw (awA_at jA1.out)).mono ?_
  rintro e y2 ⟨rfl,e2⟩
  have j22:=Lib.hid (e2.keep j21.out (fun x=>by cases x))
  have jA2:=Lib.hid (e2.keep jA1.out (fun x=>by cases x))
  have jC2:=Lib.hid (e2.keep jC1.out (fun x=>by cases x))
  clear b0 b1 b2 b3 b4 hgs o0 o1 o2 o3 o4 hgo
  obtain⟨⟨b0,b1,b2,b3,b4⟩,_⟩:=cells5 j22.out
  have hgs:=lt_of_heap j22.out
  obtain⟨⟨o0,o1,o2,o3,o4⟩,_⟩:=cells5 jC2.out
  have hgo:=lt_of_heap jC2.out
  have E2:=Lib.hid (E1.out.trans e2)
  clear e2
  go_wp2_with fail
  refine pMay_none.mono ?_
  rintro e y3 ⟨rfl,e3⟩
  have j23:=Lib.hid (e3.keep j22.out (fun x=>by cases x))
  have jA3:=Lib.hid (e3.keep jA2.out (fun x=>by cases x))
  have jC3:=Lib.hid (e3.keep jC2.out (fun x=>by cases x))
  clear b0 b1 b2 b3 b4 hgs o0 o1 o2 o3 o4 hgo
  obtain⟨⟨b0,b1,b2,b3,b4⟩,_⟩:=cells5 j23.out
  have hgs:=lt_of_heap j23.out
  obtain⟨⟨o0,o1,o2,o3,o4⟩,_⟩:=cells5 jC3.out
  have hgo:=lt_of_heap jC3.out
  have E3:=Lib.hid (E2.out.trans e3)
  clear e3
  go_wp2_with fail
  refine(psize_any (t:=awX) (most:=9) E3.out (by decide) tyX.out (by decide) (by decide)).mono ?_
  rintro e y4 ⟨he,e4⟩
  rw[aw_size] at he
  have he4:e = .returned (.int .i64 5):=he
  subst he4
  have j24:=Lib.hid (e4.keep j23.out (fun x=>by cases x))
  have jA4:=Lib.hid (e4.keep jA3.out (fun x=>by cases x))
  have jC4:=Lib.hid (e4.keep jC3.out (fun x=>by cases x))
  clear b0 b1 b2 b3 b4 hgs o0 o1 o2 o3 o4 hgo
  obtain⟨⟨b0,b1,b2,b3,b4⟩,_⟩:=cells5 j24.out
  have hgs:=lt_of_heap j24.out
  obtain⟨⟨o0,o1,o2,o3,o4⟩,_⟩:=cells5 jC4.out
  have hgo:=lt_of_heap jC4.out
  have E4:=Lib.hid (E3.out.trans e4)
  clear e4 he
  have fs4:=Lib.hid (fs.out.keep (w':=y4) (ok':=fun _=>True) (fun b _ hlt=>⟨trivial,E4.out.block b hlt (fun x=>by cases x),Nat.lt_of_lt_of_le hlt E4.out.size⟩))
  go_wp2_with fail
  refine(pCanon_row (u:=2) (rest:=4) (by decide) (by decide) fs4.out).mono ?_
  rintro e y5 ⟨F9,f9,rfl,hfd,e5⟩
  have HFD:=Lib.hid hfd
  have E5:=Lib.hid (E4.out.trans e5)
  clear hfd e5 b0 b1 b2 b3 b4 hgs o0 o1 o2 o3 o4 hgo
  go_wp2_with fail
  refine(ptext_row (u:=1) (r:=2) (q:=49) (q2:=50) (by decide) (by decide) (by decide) (by decide) (by decide) HFD.out).mono ?_
  rintro e y6 ⟨rfl,e6⟩
  have E6:=Lib.hid ((HF11.out.trans E5.out).trans e6)
  clear e6
  go_wp2_with fail
  go_ret
  exact⟨by first|rfl|simp,E6.out⟩
end
section
open Go.RowKit Go.Deep
mutual
theorem seen_bd{G:Ctx}{B:Int}(h0:0≤B):∀ {t:TyT}{m:Int},WfT G t→VT (·≤B) t→m≤B→seenT t m≤B
 | .mk k v args fs rest,m,hw,hv,hm=>by
  rw[WfT] at hw
  rw[VT] at hv
  rw[seenT]
  have h1:v≤B:=by
   by_cases c:k=1
   ·exact hv.1 c
   ·rw[hw.2.2.1 c];exact h0
  have h2:rest≤B:=by
   by_cases c:rest=0
   ·omega
   ·exact hv.2.2.2 c
  exact seenFs_bd h0 hw.2.2.2.2.1 hv.2.2.1 (seenTs_bd h0 hw.2.2.2.1 hv.2.1 (by omega))
theorem seenTs_bd{G:Ctx}{B:Int}(h0:0≤B):∀ {t:List TyT}{m:Int},WfTs G t→VTs (·≤B) t→m≤B→seenTs t m≤B
 | [],m,_,_,hm=>hm
 | x::l,m,hw,hv,hm=>by
  rw[WfTs] at hw
  rw[VTs] at hv
  rw[seenTs]
  exact seenTs_bd h0 hw.2 hv.2 (seen_bd h0 hw.1 hv.1 hm)
theorem seenFs_bd{G:Ctx}{B:Int}(h0:0≤B):∀ {t:List Fd}{m:Int},WfFs G t→VFs (·≤B) t→m≤B→seenFs t m≤B
 | [],m,_,_,hm=>hm
 | x::l,m,hw,hv,hm=>by
  rw[WfFs] at hw
  rw[VFs] at hv
  rw[seenFs]
  exact seenFs_bd h0 hw.2 hv.2 (seenF_bd h0 hw.1 hv.1 hm)
theorem seenF_bd{G:Ctx}{B:Int}(h0:0≤B):∀ {t:Fd}{m:Int},WfF G t→VF (·≤B) t→m≤B→seenF t m≤B
 | ⟨lb,pr,p,t⟩,m,hw,hv,hm=>by
  rw[WfF] at hw
  rw[VF] at hv
  rw[seenF]
  rcases hw with⟨rfl,rfl,rfl⟩| ⟨rfl,rfl,ht⟩| ⟨rfl,_,_,ht⟩
  ·have e:∀ m:Int,seenT .zero m=max (max m 0) 0:=fun _=>rfl
   rw[e];omega
  ·exact seen_bd h0 ht hv.2 (by omega)
  ·exact seen_bd h0 ht hv.2 (by have:=hv.1 rfl;omega)
end
theorem TyAt.labs{w:World}{ok:Nat→Prop}{P:List UInt8→Prop}{t:TyT}{cs:List Value}(h:TyAt w ok P t cs):∀ {Q:List UInt8→Prop},(∀ x ∈ labT t,Q x)→TyAt w ok Q t cs:=by
 have hTs:∀ {l:List TyT} {i:Nat} {x:TyT},l[i]?=some x→∀ y ∈ labT x,y ∈ labTs l:=by
  intro l
  induction l with
  | nil=>intro i x h;simp at h
  | cons a l ih =>
   intro i x h y hy
   rw[labTs]
   cases i with
   | zero=>simp at h;subst h;exact List.mem_append_left _ hy
   | succ i=>exact List.mem_append_right _ (ih (by simpa using h) y hy)
 have hFs:∀ {l:List Fd} {i:Nat} {x:Fd},l[i]?=some x→∀ y ∈ labF x,y ∈ labFs l:=by
  intro l
  induction l with
  | nil=>intro i x h;simp at h
  | cons a l ih =>
   intro i x h y hy
   rw[labFs]
   cases i with
   | zero=>simp at h;subst h;exact List.mem_append_left _ hy
   | succ i=>exact List.mem_append_right _ (ih (by simpa using h) y hy)
 induction h with
 | mk ca ch ct h2 e2 h3 e3 e4 ih2 ih4 =>
  intro Q hQ
  rw[labT] at hQ
  refine .mk ca ch ct h2 (fun i x hi=>ih2 i x hi (fun y hy=>hQ y (List.mem_append_left _ (hTs hi y hy)))) h3 (fun i f hi=>⟨(e3 i f hi).1,hQ _ (List.mem_append_right _ (hFs hi _ (by obtain⟨lb,pr,p,t⟩:=f;rw[labF];exact List.mem_cons_self)))⟩) (fun i f hi=>ih4 i f hi (fun y hy=>hQ y (List.mem_append_right _ (hFs hi _ (by obtain⟨lb,pr,p,t⟩:=f;rw[labF];exact List.mem_cons_of_mem _ hy)))))
theorem mayG_fn{a b:TyT}(h:MayG (fnT a b))(ha:∀ v ∈ gvT a [],v≤1099511627776)(hb:∀ v ∈ gvT b [],v≤1099511627776):
  ∃ G:Ctx,Pos G∧Rise G∧WfT G a∧WfT G b∧AOk G ⟨.one,seenT b (seenT a 0),a,b⟩∧seenT b (seenT a 0)≤1099511627776∧∀ u,G u≠.no→u ∈ varsT (fnT a b) []:=by
 obtain⟨G,hp,hr,hw,hs⟩:=h
 have hw':=hw
 unfold fnT at hw'
 rw[WfT] at hw'
 obtain⟨wa,wb,_⟩:=hw'.2.2.2.1
 have va:VT (·≤1099511627776) a:=vt_mono (fun u hu=>ha u hu) (by rw[gv_vars wa];exact vars_in a [])
 have vb:VT (·≤1099511627776) b:=vt_mono (fun u hu=>hb u hu) (by rw[gv_vars wb];exact vars_in b [])
 have hbd:seenT b (seenT a 0)≤1099511627776:=seen_bd (by decide) wb vb (seen_bd (by decide) wa va (by decide))
 have h0:0≤seenT b (seenT a 0):=Int.le_trans (seen_le a 0) (seen_le b _)
 refine⟨G,hp,hr,wa,wb,aok_one hp hr wa wb (fun v hv=>?_) h0,hbd,fun u hu=>?_⟩
 ·refine Classical.byContradiction (fun c=>?_)
  have:=hs (·≤seenT b (seenT a 0)) (by
   unfold fnT
   rw[VT,VTs,VTs,VTs,VFs]
   exact⟨fun c=>(by cases c),⟨vt_mono (fun u hu=>Int.le_trans hu (seen_le b _)) (seen_vt a 0),seen_vt b _,trivial⟩,trivial,fun c=>absurd rfl c⟩) v c
  omega
 ·exact hs (· ∈ varsT (fnT a b) []) (vars_in _ _) u hu
theorem few5{G:Ctx}{a b:TyT}(wa:WfT G a)(wb:WfT G b)(ha:szT a≤5000)(hb:szT b≤5000):Few (· ∈ labT a++labT b):=fun l hl hP=>by
 have h1:=nd_len hl hP
 have h2:=labT_len wa
 have h3:=labT_len wb
 rw[List.length_append] at h1
 omega
theorem few_two{G:Ctx}{a b:TyT}(wa:WfT G a)(wb:WfT G b)(ha:szT a≤2000)(hb:szT b≤2000):Few (· ∈ labT a++labT b):=few5 wa wb (by omega) (by omega)
section
variable [LoB]
attribute [local instance] Ex.no
theorem ltogether5{w:World}{ok:Nat→Prop}{P:List UInt8→Prop}{a b:TyT}{A B A' B':Option Addr}{c d c' d':Nat}(ha:TyAt w ok P a [.int .i64 a.k,.int .i64 a.v,.slice A a.args.length c,.slice B a.fs.length d,.int .i64 a.rest])(hb:TyAt w ok P b [.int .i64 b.k,.int .i64 b.v,.slice A' b.args.length c',.slice B' b.fs.length d',.int .i64 b.rest])(sa:szT a≤5000)(sb:szT b≤5000):
  Calls Tryz.prog 10 #[.agg #[.int .i64 a.k,.int .i64 a.v,.slice A a.args.length c,.slice B a.fs.length d,.int .i64 a.rest],.agg #[.int .i64 b.k,.int .i64 b.v,.slice A' b.args.length c',.slice B' b.fs.length d',.int .i64 b.rest]] w fun e w'=>∃ q:Bool,e = .returned (.bool q)∧(q=true→MayG (fnT a b))∧Fr [] w w':=by
 have f0:=((Fr.refl [] w).alloc (.cells #[.int .i64 a.k,.int .i64 a.v,.slice A a.args.length c,.slice B a.fs.length d,.int .i64 a.rest] 27)).alloc (.cells #[.int .i64 b.k,.int .i64 b.v,.slice A' b.args.length c',.slice B' b.fs.length d',.int .i64 b.rest] 27)
 have g0:=heap_old (heap_new w (.cells #[.int .i64 a.k,.int .i64 a.v,.slice A a.args.length c,.slice B a.fs.length d,.int .i64 a.rest] 27)) (.cells #[.int .i64 b.k,.int .i64 b.v,.slice A' b.args.length c',.slice B' b.fs.length d',.int .i64 b.rest] 27)
 have g1:=heap_new (w.alloc (.cells #[.int .i64 a.k,.int .i64 a.v,.slice A a.args.length c,.slice B a.fs.length d,.int .i64 a.rest] 27)) (.cells #[.int .i64 b.k,.int .i64 b.v,.slice A' b.args.length c',.slice B' b.fs.length d',.int .i64 b.rest] 27)
 rw[World.size_alloc] at g1
 obtain⟨⟨l0,l1,l2,l3,l4⟩,_⟩:=cells5 g0
 obtain⟨⟨k0,k1,k2,k3,k4⟩,_⟩:=cells5 g1
 have hs0:=lt_of_heap g0
 have hs1:=lt_of_heap g1
 have ha2:=ha.keep (ok':=fun _=>True) (fun b _ hlt=>⟨trivial,f0.block b hlt (fun x=>by cases x),Nat.lt_of_lt_of_le hlt f0.size⟩)
 have hb2:=hb.keep (ok':=fun _=>True) (fun b _ hlt=>⟨trivial,f0.block b hlt (fun x=>by cases x),Nat.lt_of_lt_of_le hlt f0.size⟩)
 have cF:=Lib.hid (lfun_any ha2 hb2)
 have hsz:szT (fnT a b)≤1073741824:=by unfold fnT;rw[szT,szTs,szTs,szTs,szFs];omega
 have HF:=Lib.hid f0
 have HSZ:=Lib.hid hsz
 clear f0 g0 g1 ha hb ha2 hb2 hsz
 go_enter Tryz.func10,Tryz.ntmps10
 go_wp2_with fail
 refine cF.out.mono ?_
 rintro e w5 ⟨X,rfl,hty,f5⟩
 have HTY:=Lib.hid hty
 have HF5:=Lib.hid (HF.out.trans f5)
 clear hty f5 cF
 go_wp2_with fail
 refine(rMay_any (t:=fnT a b) HSZ.out HTY.out).mono ?_
 rintro e w6 ⟨q,rfl,hq,f6⟩
 have HQ:=Lib.hid hq
 have HF6:=Lib.hid (HF5.out.trans f6)
 clear hq f6
 go_wp2_with fail
 go_ret
 exact⟨q,by first|rfl|simp,HQ.out,HF6.out⟩
theorem ltogether_any{w:World}{ok:Nat→Prop}{P:List UInt8→Prop}{a b:TyT}{A B A' B':Option Addr}{c d c' d':Nat}(ha:TyAt w ok P a [.int .i64 a.k,.int .i64 a.v,.slice A a.args.length c,.slice B a.fs.length d,.int .i64 a.rest])(hb:TyAt w ok P b [.int .i64 b.k,.int .i64 b.v,.slice A' b.args.length c',.slice B' b.fs.length d',.int .i64 b.rest])(sa:szT a≤2000)(sb:szT b≤2000):
  Calls Tryz.prog 10 #[.agg #[.int .i64 a.k,.int .i64 a.v,.slice A a.args.length c,.slice B a.fs.length d,.int .i64 a.rest],.agg #[.int .i64 b.k,.int .i64 b.v,.slice A' b.args.length c',.slice B' b.fs.length d',.int .i64 b.rest]] w fun e w'=>∃ q:Bool,e = .returned (.bool q)∧(q=true→MayG (fnT a b))∧Fr [] w w':=ltogether5 ha hb (by omega) (by omega)
end
end
end
section
open Go.RowKit Go.Deep
theorem len2T{α:Type}:∀ {l:List α},l.length=2→∃ a b,l=[a,b]
 | [a,b],_=>⟨a,b,rfl⟩
theorem len4T{α:Type}:∀ {l:List α},l.length=4→∃ a b c d,l=[a,b,c,d]
 | [a,b,c,d],_=>⟨a,b,c,d,rfl⟩
theorem len5T{α:Type}:∀ {l:List α},l.length=5→∃ a b c d e,l=[a,b,c,d,e]
 | [a,b,c,d,e],_=>⟨a,b,c,d,e,rfl⟩
theorem addr_addT(b o k:Nat):(⟨b,o,none⟩:Addr).add k=⟨b,o+k,none⟩:=by
 unfold Addr.add
 by_cases h:k=0
 ·subst h;simp
 ·simp[h]
instance:Inhabited TyT:=⟨.zero⟩
instance:Inhabited Fd:=⟨⟨[],0,0,.zero⟩⟩
def okC(w:World)(b:Nat):Prop:=∃ cs T f,w.heap[b]?=some (.cells cs T f)
section
variable {H:Type} {enc:TypeId×Value→H} {w:World}
theorem open_slT{α:Type} [Inhabited α] {P:Program}{t e:TypeId}(ht:P.underlying t=some (.slice e))(size:Nat)(hs:P.cellsOf e=size)(hs0:0<size)(E:α→List Value→Prop){fuel:Nat}{cs:List Value}{x:DataW H×List MemPlace}
  (h:DataW.trod enc P w 0 (fun _=>true) true fuel t cs=some x)
  (hel:∀ n,n<fuel→∀ cs' y,DataW.trod enc P w 0 (fun _=>true) true n e cs'=some y→∃ z:α,E z cs'):
  ∃ (v:Value) (xs:List α) (c:Nat→List Value),cs=[v]∧SlAt w (okC w) v xs.length size c∧∀ (i:Nat) (z:α),xs[i]?=some z→E z (c i):=by
 rcases DataW.trod_slice ht h with⟨rfl,rfl⟩| ⟨a,len,cap,elems,rest,n,rfl,rfl,rfl,_,hlc,_,hlen,hi,_,_⟩
 ·exact⟨_,[],fun _=>[],rfl,SlAt.nil_ _ _ _ _,fun i z hz=>by simp at hz⟩
 ·have each:∀ i,i<len→∃ q:List Value×α,w.cells? 0 (a.add (i * size)) size=some q.1∧E q.2 q.1:=fun i hlt=>by
   have:=hi i hlt
   rw[hs] at this
   obtain⟨d,hd⟩:∃ d,elems[i]?=some d:=⟨elems[i],List.getElem?_eq_getElem (by omega)⟩
   rw[hd] at this
   obtain⟨cs',h1,h2⟩:=Option.bind_eq_some_iff.1 this
   obtain⟨z,hz1⟩:=hel n (Nat.lt_succ_self n) cs' d h2
   exact⟨(cs',z),h1,hz1⟩
  obtain⟨q,hq⟩:=choose_lt each
  refine⟨_,(List.range len).map (fun i=>(q i).2),fun i=>(q i).1,rfl,?_,fun i z hz=>?_⟩
  ·rw[List.length_map,List.length_range]
   by_cases h0:len=0
   ·subst h0
    exact .inl ⟨_,_,rfl,rfl⟩
   ·obtain⟨b,o,sp⟩:=a
    have hc0:=(World.cells?_some (hq 0 (by omega)).1)
    obtain⟨v,hv⟩:∃ v,(q 0).1[0]?=some v:=⟨(q 0).1[0]'(by rw[hc0.2.1];exact hs0),List.getElem?_eq_getElem _⟩
    have hcc:=hc0.2.2 0 hs0
    rw[hv] at hcc
    have e0:((⟨b,o,sp⟩:Addr).add (0 * size)).add 0=⟨b,o,sp⟩:=by simp[Addr.add]
    rw[e0] at hcc
    have hsp:sp=none:=World.cell?_spot hcc
    subst hsp
    have hb:b<w.heap.size∧okC w b:=by
     unfold World.cell? at hcc
     rcases Nat.lt_or_ge b w.heap.size with h1|h1
     ·refine⟨h1,?_⟩
      have e:w.heap[b]?=some w.heap[b]:=Array.getElem?_eq_getElem h1
      generalize w.heap[b]=ob at e
      dsimp only at hcc
      rw[e] at hcc
      cases ob with
      | cells cs T f=>exact⟨cs,T,f,e⟩
      | _=>simp at hcc
     ·dsimp only at hcc
      rw[Array.getElem?_eq_none h1] at hcc
      cases hcc
    refine .inr ⟨b,o,cap,rfl,hb.2,hb.1,hlc,fun i hlt=>?_⟩
    obtain⟨_,h1,h2⟩:=World.cells?_some (hq i hlt).1
    refine⟨h1,fun j u hu=>?_⟩
    have hj:j<size:=by rw[← h1];exact(List.getElem?_eq_some_iff.1 hu).1
    have:=h2 j hj
    rw[addr_addT,addr_addT] at this
    exact this.trans hu
  ·obtain⟨hlt,e⟩:=List.getElem?_eq_some_iff.1 hz
   simp at hlt e
   subst e
   exact(hq i hlt).2
theorem cellsTy:Tryz.prog.cellsOf 27=5:=by kernel_rfl
theorem cellsFd:Tryz.prog.cellsOf 44=8:=by kernel_rfl
theorem cellsRw:Tryz.prog.cellsOf 25=2:=by kernel_rfl
theorem cellsIn:Tryz.prog.cellsOf 3=1:=by kernel_rfl
theorem cellsSt:Tryz.prog.cellsOf 9=1:=by kernel_rfl
theorem cellsTys:Tryz.prog.cellsOf 22=1:=by kernel_rfl
theorem cellsFds:Tryz.prog.cellsOf 23=1:=by kernel_rfl
theorem open_ty:∀ (N fuel:Nat),fuel<N→∀ (cs:List Value)(x:DataW H×List MemPlace),DataW.trod enc Tryz.prog w 0 (fun _=>true) true fuel 27 cs=some x→∃ t:TyT,TyAt w (okC w) (fun _=>True) t cs
 | 0,_,h,_,_,_=>absurd h (Nat.not_lt_zero _)
 | N+1,fuel,hN,cs,x,h=>by
  obtain⟨xs,n,rfl,rfl,hcl,hxl,hf⟩:=DataW.trod_struct Tryz.underlying27 h
  rw[cellsTy] at hcl
  have hxl:xs.length=4:=hxl
  obtain⟨x0,x1,x2,x3,rfl⟩:=len4T hxl
  obtain⟨v0,v1,v2,v3,v4,rfl⟩:=len5T hcl
  have h0:=hf 0 _ rfl
  have h1:=hf 1 _ rfl
  have h2:=hf 2 _ rfl
  have h3:=hf 3 _ rfl
  simp only[List.getElem_toArray,List.getElem_cons_zero,List.getElem_cons_succ,cellsIn,cellsTys,cellsRw,List.drop_zero,List.drop_succ_cons,List.take_succ_cons,List.take_zero,List.getElem?_cons_zero,List.getElem?_cons_succ] at h0 h1 h2 h3
  obtain⟨k,e0,rfl,w0⟩:=DataW.trod_int Tryz.underlying3 h0
  obtain⟨v,e1,rfl,w1⟩:=DataW.trod_int Tryz.underlying3 h1
  obtain⟨u2,args,c2,e2,s2,l2⟩:=open_slT (P:=Tryz.prog) (α:=TyT) (hel:=fun q hq cs' y hy=>open_ty N q (by omega) cs' y hy) Tryz.underlying22 5 cellsTy (by decide) (E:=fun z cs=>TyAt w (okC w) (fun _=>True) z cs) h2
  obtain⟨ys,m,rfl,rfl,hcl',hyl,hg⟩:=DataW.trod_struct Tryz.underlying25 h3
  have hyl:ys.length=2:=hyl
  obtain⟨y0,y1,rfl⟩:=len2T hyl
  have g0:=hg 0 _ rfl
  have g1:=hg 1 _ rfl
  simp only[List.getElem_toArray,List.getElem_cons_zero,List.getElem_cons_succ,cellsIn,cellsFds,List.drop_zero,List.drop_succ_cons,List.take_succ_cons,List.take_zero,List.getElem?_cons_zero,List.getElem?_cons_succ] at g0 g1
  obtain⟨r,e4,rfl,w4⟩:=DataW.trod_int Tryz.underlying3 g1
  obtain⟨u3,fs,c3,e3,s3,l3⟩:=open_slT (P:=Tryz.prog) (α:=Fd) Tryz.underlying23 8 cellsFd (by decide) (E:=fun z cs=>cs.take 3=hdF z∧TyAt w (okC w) (fun _=>True) z.t (cs.drop 3)) g0 (fun q hq cs' y hy=>by
   obtain⟨zs,m',rfl,rfl,hcz,hzl,hh⟩:=DataW.trod_struct Tryz.underlying44 hy
   rw[cellsFd] at hcz
   have hzl:zs.length=4:=hzl
   obtain⟨z0,z1,z2,z3,rfl⟩:=len4T hzl
   obtain⟨a0,a1,a2,a3,a4,a5,a6,a7,rfl⟩:∃ a b c d e f g h,cs'=[a,b,c,d,e,f,g,h]:=by
    match cs',hcz with
    | [a,b,c,d,e,f,g,h],_=>exact⟨a,b,c,d,e,f,g,h,rfl⟩
   have k0:=hh 0 _ rfl
   have k1:=hh 1 _ rfl
   have k2:=hh 2 _ rfl
   have k3:=hh 3 _ rfl
   simp only[List.getElem_toArray,List.getElem_cons_zero,List.getElem_cons_succ,cellsIn,cellsSt,cellsTy,List.drop_zero,List.drop_succ_cons,List.take_succ_cons,List.take_zero,List.getElem?_cons_zero,List.getElem?_cons_succ] at k0 k1 k2 k3
   obtain⟨lb,f0,rfl,_⟩:=DataW.trod_string Tryz.underlying9 k0
   obtain⟨pr,f1,rfl,_⟩:=DataW.trod_int Tryz.underlying3 k1
   obtain⟨p,f2,rfl,_⟩:=DataW.trod_int Tryz.underlying3 k2
   obtain⟨t,ht⟩:=open_ty N m' (by omega) _ _ k3
   cases f0;cases f1;cases f2
   exact⟨⟨lb.data.toList,pr,p,t⟩,by simp[hdF],ht⟩)
  cases e0;cases e1;cases e2;cases e3;cases e4
  refine⟨.mk k v args fs r,?_⟩
  have s3':SlAt w (okC w) v3 fs.length 8 (fun i=>(c3 i).take 3++(c3 i).drop 3):=by
   have:(fun i=>(c3 i).take 3++(c3 i).drop 3)=c3:=funext fun i=>List.take_append_drop 3 (c3 i)
   rw[this]
   exact s3
  exact .mk c2 (fun i=>(c3 i).take 3) (fun i=>(c3 i).drop 3) s2 l2 s3' (fun i f hi=>⟨(l3 i f hi).1,trivial⟩) (fun i f hi=>(l3 i f hi).2)
end
theorem agg_ofT{P:Program}{w:World}{r:Reach}{base:Nat}{t:TypeId}{v:Value}{fs:Array Field}(ht:P.underlying t=some (.struct fs))(h:Value.okWide P w r base t v):∃ cs,v = .agg cs:=by
 unfold Value.okWide at h
 rw[ht] at h
 obtain⟨cs,rfl,_⟩:=h
 exact⟨cs,rfl⟩
theorem laidOutT:laidOutB Tryz.prog=true:=by kernel_rfl
section
variable {H:Type} {enc:TypeId×Value→H} {w:World}
theorem open_arg_ty [LoB] (hlo:LoB.lo=w.heap.size){cs:Array Value}{d:DataW H}{p:List MemPlace}(h:DataW.Trod enc Tryz.prog w 0 (fun _=>true) true 27 (.agg cs) d p):
  ∃ (t:TyT) (A:Option Addr) (c:Nat) (B:Option Addr) (d':Nat),cs = #[.int .i64 t.k,.int .i64 t.v,.slice A t.args.length c,.slice B t.fs.length d',.int .i64 t.rest]∧TyAt w (@okW _ Ex.no w) (fun _=>True) t [.int .i64 t.k,.int .i64 t.v,.slice A t.args.length c,.slice B t.fs.length d',.int .i64 t.rest]:=by
 obtain⟨fuel,hf⟩:=h
 obtain⟨t,hx⟩:=open_ty (fuel+1) fuel (Nat.lt_succ_self _) _ _ hf
 have hcs:(Value.agg cs).cells.toList=cs.toList:=rfl
 rw[hcs] at hx
 obtain⟨A,c,B,d',he,_,_⟩:=hx.open_
 refine⟨t,A,c,B,d',?_,?_⟩
 ·rw[← Array.toArray_toList (xs:=cs),he]
 ·rw[← he]
  exact hx.keep (fun b hb hlt=>⟨by
   obtain⟨cs,T,f,e⟩:=hb
   exact⟨cs,T,f,e,fun _=>by rw[hlo];exact hlt,fun c=>c.elim⟩,rfl,hlt⟩)
end
end
section
open Go.ChangeShapes Go.WideShapes Go.ChangeAt Go.ChangeMaps Go.RowKit
theorem own:ownKnob Tryz.prog.godebug=none:=by kernel_rfl
noncomputable def doorW(os:Os):World:=World.doorLaid Tryz.prog 72 os
theorem laid_met(os:Os)(args:Array Value):laidMet Tryz.prog Rows.rowSameRow.laid ((doorW os).forCall (fun _ _=>0) ⟨#[],args,[]⟩).memory :=
 laidMet_of_run' 8 (by kernel_rfl) (by kernel_rfl)
end
section
attribute [local go_sem ↓] Go.wp_at_zero Go.wp_at_succ
section
variable [LoB]
attribute [local instance] Ex.no
theorem Sh.q{w w1 w2:World}{P:List UInt8→Prop}{Q:Nat}{M0 M1 M2:Option Nat}{G:Ctx}{R:Raw}{s:Sub}{m:Int}{ta tb:TyT}(e1:Fr [] w w1)(e2:Fr [Q] w1 w2)(h:SolW w P Q M0 M1 M2 G R s m ta tb):Sh w w2 (okW w) (okW w2):=fun b hb hlt=>by
 have h1:=okW_fr e1 hb (fun x=>by cases x) hlt
 have hn:b ∉ [Q]:=fun hx=>by
  simp at hx
  subst hx
  exact(h.at_.not_ok b (by simp[solL])).1 hb
 have hl:=Nat.lt_of_lt_of_le hlt e1.size
 exact⟨okW_fr e2 h1 hn hl,(e2.block b hl hn).trans (e1.block b hlt (fun x=>by cases x)),Nat.lt_of_lt_of_le hl e2.size⟩
end
end
end Go.Proofs.YtoimdiballicnaaGreatDoor
