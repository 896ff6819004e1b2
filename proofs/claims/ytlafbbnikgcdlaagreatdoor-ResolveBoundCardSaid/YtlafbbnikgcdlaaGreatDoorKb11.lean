/- A part of the proof: P4, P5, P6, Pv, Nb, Nc, Nd, Ne, Nf, Nk. -/
import Derived.Deep.DrawnRows
import Derived.BigQuiet
import Derived.Deep.RegionHeld3
import Derived.Lib.SliceRun
import Derived.Test.YtlafbbnikgcdlaaGreatDoorKb2
import Derived.Test.YtlafbbnikgcdlaaGreatDoorKb8
namespace Go.Proofs.YtlafbbnikgcdlaaGreatDoor
open Go.RowKit
open _root_.Go.Proofs.Tryz
set_option linter.all false
set_option maxHeartbeats 16000000
set_option maxRecDepth 100000
variable{p:Prop}
open List renaming length_cons→Lc',length_append→La',getElem?_eq_getElem→Lg',cons_append→Lp',length_nil→Ln',append_assoc→Ls'
open Nat renaming lt_of_lt_of_le→Nl',le_refl→Nr'
section
attribute [local go_sem ↓] Go.wp_at_zero Go.wp_at_succ
theorem nn30(h:p:=by
 refine bodyPost_ret (v:=.agg #[vI k1,vI a1,vS nm1,vI n1,vS s1,.slice A51 n51 c51,.slice A61 n61 c61,.slice A71 n71 c71]) ?_ rfl ?_
 ·simp[results,Tryz.f15,go_sem,d0,d1,d2,d3,d4,d5,d6,d7]
 ·exact qq156):p:=h
theorem nn60(h:p:=by
 cases hb:isB t st1.ok [[59]] with
 | false =>
  refine(may_no [59] P g c ts st1 t ht hb x4 h4 HE.out).mono ?_;rintro e x5 ⟨rfl,f5⟩;have kqq12:=@Hz _ @nn30
  exact qq12
 | true =>
  refine(may_yes [59] P g c ts st1 t ht hb x4 h4 HE.out).mono ?_;have kqq92:=@Hz _ @nn256;exact qq92):p:=h
theorem nn88(h:p:=by
 have HG:=Hz (Aq G6 (vI 20) (vI t.at') (vE) (vI 0) (vE) (vZ) (.slice (some ⟨x6.heap.size,0,none⟩) 2 2) (vZ));have HF:=Hz ((F5.trans f6).step (Aj x6 B (vI 20) (vI t.at') (vE) (vI 0) (vE) (vZ) (.slice (some ⟨x6.heap.size,0,none⟩) 2 2) (vZ)) (fun x hx => .inr (by simp at hx;omega)));have HP:=Hz ((hst2).frL (Aj x6 B (vI 20) (vI t.at') (vE) (vI 0) (vE) (vZ) (.slice (some ⟨x6.heap.size,0,none⟩) 2 2) (vZ)) (by simpa using nP) (by simpa using ng));have HS:=Hz (E0 x6 B (vI 20) (vI t.at') (vE) (vI 0) (vE) (vZ) (.slice (some ⟨x6.heap.size,0,none⟩) 2 2) (vZ));have HX1:Hid (Ak (st8 x6 B (vI 20) (vI t.at') (vE) (vI 0) (vE) (vZ) (.slice (some ⟨x6.heap.size,0,none⟩) 2 2) (vZ)) (fun b=>B≤b) (.mk k1 a1 nm1 n1 s1 ls1 args1 arms1) [vI k1,vI a1,vS nm1,vI n1,vS s1,.slice A51 n51 c51,.slice A61 n61 c61,.slice A71 n71 c71]):=Hz ((hx1).keep (Sh.of_fr (Aj x6 B (vI 20) (vI t.at') (vE) (vI 0) (vE) (vZ) (.slice (some ⟨x6.heap.size,0,none⟩) 2 2) (vZ)) (fun b hb hlt=>⟨oM,by simp;omega⟩)));have HX2:Hid (Ak (st8 x6 B (vI 20) (vI t.at') (vE) (vI 0) (vE) (vZ) (.slice (some ⟨x6.heap.size,0,none⟩) 2 2) (vZ)) (fun b=>B≤b) (.mk k2 a2 nm2 n2 s2 ls2 args2 arms2) [vI k2,vI a2,vS nm2,vI n2,vS s2,.slice A52 n52 c52,.slice A62 n62 c62,.slice A72 n72 c72]):=Hz ((hx2).keep (Sh.of_fr (Aj x6 B (vI 20) (vI t.at') (vE) (vI 0) (vE) (vZ) (.slice (some ⟨x6.heap.size,0,none⟩) 2 2) (vZ)) (fun b hb hlt=>⟨oM,by simp;omega⟩)));unfold st8 at HG HF HP HS HX1 HX2;go_wp2_with fail;generalize (((((((x6.setCell ⟨B,0,none⟩ (vI 20)).setCell ⟨B,1,none⟩ (vI t.at')).setCell ⟨B,2,none⟩ (vE)).setCell ⟨B,3,none⟩ (vI 0)).setCell ⟨B,4,none⟩ (vE)).setCell ⟨B,5,none⟩ (vZ)).setCell ⟨B,6,none⟩ (.slice (some ⟨x6.heap.size,0,none⟩) 2 2)).setCell ⟨B,7,none⟩ (vZ)=Z at HG HF HP HS HX1 HX2 ⊢;have kqq94:=@Hz _ @nn259;exact qq94):p:=h
theorem nn165(h:p:=by
 refine(IH.out.item P g c st w1 (H.out.fr f0) (by have:=HN.out;omega)).mono ?_;have kqq17:=@Hz _ @nn60;exact qq17):p:=h
theorem nn256(h:p:=by
 have cS:=fun W hW=>Hz (IH.out.seq P g c ⟨st1.i+1,st1.ok⟩ W hW (by have:=HN.out;have:=h5.inb;simp only at this ⊢;omega))
 have kqq25:=@Hz _ @nn88;exact qq25):p:=h
theorem nn259(h:p:=by
 have hxx:=Ak.of_rows (k:=20) (a:=t.at') (nm:=[]) (n:=0) (s:=[]) (c5:=fun _=>[]) (c7:=fun _=>[]) An.nil_ row An.nil_;refine bodyPost_ret (v:=.agg #[vI 20,vI t.at',vE,vI 0,vE,vZ,.slice (some ⟨x6.heap.size,0,none⟩) 2 2,vZ]) ?_ rfl ?_
 ·simp[results,Tryz.f15,go_sem,d0,d1,d2,d3,d4,d5,d6,d7]
 ·exact qq129):p:=h
theorem nn380(h:p:=by
 go_enter func15,ntmps15;have kqq56:=@Hz _ @nn165;exact qq56):p:=h
theorem seq_step(ts:List Tok)(hE:Cx ts)(N:Nat)(ih:Hi ts N):GE ts (N+1) 13 .seq 15:=by
 have kqq175:=@Hz _ @nn380;exact qq175
theorem nn29(h:p:=by
 refine bodyPost_ret (v:=.agg #[vI k1,vI a1,vS nm1,vI n1,vS s1,.slice A51 n51 c51,.slice A61 n61 c61,.slice A71 n71 c71]) ?_ rfl ?_
 ·simp[results,Tryz.f72,go_sem,d0,d1,d2,d3,d4,d5,d6,d7]
 ·exact qq156):p:=h
theorem nn59(h:p:=by
 cases hb:isB t st1.ok [[124,124]] with
 | false =>
  refine(may_no [124,124] P g c ts st1 t ht hb x4 h4 HE.out).mono ?_;rintro e x5 ⟨rfl,f5⟩;have kqq12:=@Hz _ @nn29
  exact qq12
 | true =>
  refine(may_yes [124,124] P g c ts st1 t ht hb x4 h4 HE.out).mono ?_;have kqq92:=@Hz _ @nn257;exact qq92):p:=h
theorem nn87(h:p:=by
 have HG:=Hz (Aq G6 (vI 22) (vI t.at') (vE) (vI 0) (vE) (vZ) (.slice (some ⟨x6.heap.size,0,none⟩) 2 2) (vZ));have HF:=Hz ((F5.trans f6).step (Aj x6 B (vI 22) (vI t.at') (vE) (vI 0) (vE) (vZ) (.slice (some ⟨x6.heap.size,0,none⟩) 2 2) (vZ)) (fun x hx => .inr (by simp at hx;omega)));have HP:=Hz ((hst2).frL (Aj x6 B (vI 22) (vI t.at') (vE) (vI 0) (vE) (vZ) (.slice (some ⟨x6.heap.size,0,none⟩) 2 2) (vZ)) (by simpa using nP) (by simpa using ng));have HS:=Hz (E0 x6 B (vI 22) (vI t.at') (vE) (vI 0) (vE) (vZ) (.slice (some ⟨x6.heap.size,0,none⟩) 2 2) (vZ));have HX1:Hid (Ak (st8 x6 B (vI 22) (vI t.at') (vE) (vI 0) (vE) (vZ) (.slice (some ⟨x6.heap.size,0,none⟩) 2 2) (vZ)) (fun b=>B≤b) (.mk k1 a1 nm1 n1 s1 ls1 args1 arms1) [vI k1,vI a1,vS nm1,vI n1,vS s1,.slice A51 n51 c51,.slice A61 n61 c61,.slice A71 n71 c71]):=Hz ((hx1).keep (Sh.of_fr (Aj x6 B (vI 22) (vI t.at') (vE) (vI 0) (vE) (vZ) (.slice (some ⟨x6.heap.size,0,none⟩) 2 2) (vZ)) (fun b hb hlt=>⟨oM,by simp;omega⟩)));have HX2:Hid (Ak (st8 x6 B (vI 22) (vI t.at') (vE) (vI 0) (vE) (vZ) (.slice (some ⟨x6.heap.size,0,none⟩) 2 2) (vZ)) (fun b=>B≤b) (.mk k2 a2 nm2 n2 s2 ls2 args2 arms2) [vI k2,vI a2,vS nm2,vI n2,vS s2,.slice A52 n52 c52,.slice A62 n62 c62,.slice A72 n72 c72]):=Hz ((hx2).keep (Sh.of_fr (Aj x6 B (vI 22) (vI t.at') (vE) (vI 0) (vE) (vZ) (.slice (some ⟨x6.heap.size,0,none⟩) 2 2) (vZ)) (fun b hb hlt=>⟨oM,by simp;omega⟩)));unfold st8 at HG HF HP HS HX1 HX2;go_wp2_with fail;generalize (((((((x6.setCell ⟨B,0,none⟩ (vI 22)).setCell ⟨B,1,none⟩ (vI t.at')).setCell ⟨B,2,none⟩ (vE)).setCell ⟨B,3,none⟩ (vI 0)).setCell ⟨B,4,none⟩ (vE)).setCell ⟨B,5,none⟩ (vZ)).setCell ⟨B,6,none⟩ (.slice (some ⟨x6.heap.size,0,none⟩) 2 2)).setCell ⟨B,7,none⟩ (vZ)=Z at HG HF HP HS HX1 HX2 ⊢;have kqq94:=@Hz _ @nn260;exact qq94):p:=h
theorem nn164(h:p:=by
 refine(IH.out.and P g c st w1 (H.out.fr f0) (by have:=HN.out;omega)).mono ?_;have kqq17:=@Hz _ @nn59;exact qq17):p:=h
theorem nn257(h:p:=by
 have cS:=fun W hW=>Hz (IH.out.or P g c ⟨st1.i+1,st1.ok⟩ W hW (by have:=HN.out;have:=h5.inb;simp only at this ⊢;omega))
 have kqq25:=@Hz _ @nn87;exact qq25):p:=h
theorem nn260(h:p:=by
 have hxx:=Ak.of_rows (k:=22) (a:=t.at') (nm:=[]) (n:=0) (s:=[]) (c5:=fun _=>[]) (c7:=fun _=>[]) An.nil_ row An.nil_;refine bodyPost_ret (v:=.agg #[vI 22,vI t.at',vE,vI 0,vE,vZ,.slice (some ⟨x6.heap.size,0,none⟩) 2 2,vZ]) ?_ rfl ?_
 ·simp[results,Tryz.f72,go_sem,d0,d1,d2,d3,d4,d5,d6,d7]
 ·exact qq129):p:=h
theorem nn379(h:p:=by
 go_enter func72,ntmps72;have kqq56:=@Hz _ @nn164;exact qq56):p:=h
theorem or_step(ts:List Tok)(hE:Cx ts)(N:Nat)(ih:Hi ts N):GE ts (N+1) 11 .or 72:=by
 have kqq175:=@Hz _ @nn379;exact qq175
theorem nn28(h:p:=by
 refine bodyPost_ret (v:=.agg #[vI k1,vI a1,vS nm1,vI n1,vS s1,.slice A51 n51 c51,.slice A61 n61 c61,.slice A71 n71 c71]) ?_ rfl ?_
 ·simp[results,Tryz.f110,go_sem,d0,d1,d2,d3,d4,d5,d6,d7]
 ·exact qq156):p:=h
theorem nn58(h:p:=by
 cases hb:isB t st1.ok [[38,38]] with
 | false =>
  refine(may_no [38,38] P g c ts st1 t ht hb x4 h4 HE.out).mono ?_;rintro e x5 ⟨rfl,f5⟩;have kqq12:=@Hz _ @nn28
  exact qq12
 | true =>
  refine(may_yes [38,38] P g c ts st1 t ht hb x4 h4 HE.out).mono ?_;have kqq92:=@Hz _ @nn258;exact qq92):p:=h
theorem nn86(h:p:=by
 have HG:=Hz (Aq G6 (vI 21) (vI t.at') (vE) (vI 0) (vE) (vZ) (.slice (some ⟨x6.heap.size,0,none⟩) 2 2) (vZ));have HF:=Hz ((F5.trans f6).step (Aj x6 B (vI 21) (vI t.at') (vE) (vI 0) (vE) (vZ) (.slice (some ⟨x6.heap.size,0,none⟩) 2 2) (vZ)) (fun x hx => .inr (by simp at hx;omega)));have HP:=Hz ((hst2).frL (Aj x6 B (vI 21) (vI t.at') (vE) (vI 0) (vE) (vZ) (.slice (some ⟨x6.heap.size,0,none⟩) 2 2) (vZ)) (by simpa using nP) (by simpa using ng));have HS:=Hz (E0 x6 B (vI 21) (vI t.at') (vE) (vI 0) (vE) (vZ) (.slice (some ⟨x6.heap.size,0,none⟩) 2 2) (vZ));have HX1:Hid (Ak (st8 x6 B (vI 21) (vI t.at') (vE) (vI 0) (vE) (vZ) (.slice (some ⟨x6.heap.size,0,none⟩) 2 2) (vZ)) (fun b=>B≤b) (.mk k1 a1 nm1 n1 s1 ls1 args1 arms1) [vI k1,vI a1,vS nm1,vI n1,vS s1,.slice A51 n51 c51,.slice A61 n61 c61,.slice A71 n71 c71]):=Hz ((hx1).keep (Sh.of_fr (Aj x6 B (vI 21) (vI t.at') (vE) (vI 0) (vE) (vZ) (.slice (some ⟨x6.heap.size,0,none⟩) 2 2) (vZ)) (fun b hb hlt=>⟨oM,by simp;omega⟩)));have HX2:Hid (Ak (st8 x6 B (vI 21) (vI t.at') (vE) (vI 0) (vE) (vZ) (.slice (some ⟨x6.heap.size,0,none⟩) 2 2) (vZ)) (fun b=>B≤b) (.mk k2 a2 nm2 n2 s2 ls2 args2 arms2) [vI k2,vI a2,vS nm2,vI n2,vS s2,.slice A52 n52 c52,.slice A62 n62 c62,.slice A72 n72 c72]):=Hz ((hx2).keep (Sh.of_fr (Aj x6 B (vI 21) (vI t.at') (vE) (vI 0) (vE) (vZ) (.slice (some ⟨x6.heap.size,0,none⟩) 2 2) (vZ)) (fun b hb hlt=>⟨oM,by simp;omega⟩)));unfold st8 at HG HF HP HS HX1 HX2;go_wp2_with fail;generalize (((((((x6.setCell ⟨B,0,none⟩ (vI 21)).setCell ⟨B,1,none⟩ (vI t.at')).setCell ⟨B,2,none⟩ (vE)).setCell ⟨B,3,none⟩ (vI 0)).setCell ⟨B,4,none⟩ (vE)).setCell ⟨B,5,none⟩ (vZ)).setCell ⟨B,6,none⟩ (.slice (some ⟨x6.heap.size,0,none⟩) 2 2)).setCell ⟨B,7,none⟩ (vZ)=Z at HG HF HP HS HX1 HX2 ⊢;have kqq94:=@Hz _ @nn261;exact qq94):p:=h
theorem nn163(h:p:=by
 refine(IH.out.cmp P g c st w1 (H.out.fr f0) (by have:=HN.out;omega)).mono ?_;have kqq17:=@Hz _ @nn58;exact qq17):p:=h
theorem nn258(h:p:=by
 have cS:=fun W hW=>Hz (IH.out.and P g c ⟨st1.i+1,st1.ok⟩ W hW (by have:=HN.out;have:=h5.inb;simp only at this ⊢;omega))
 have kqq25:=@Hz _ @nn86;exact qq25):p:=h
theorem nn261(h:p:=by
 have hxx:=Ak.of_rows (k:=21) (a:=t.at') (nm:=[]) (n:=0) (s:=[]) (c5:=fun _=>[]) (c7:=fun _=>[]) An.nil_ row An.nil_;refine bodyPost_ret (v:=.agg #[vI 21,vI t.at',vE,vI 0,vE,vZ,.slice (some ⟨x6.heap.size,0,none⟩) 2 2,vZ]) ?_ rfl ?_
 ·simp[results,Tryz.f110,go_sem,d0,d1,d2,d3,d4,d5,d6,d7]
 ·exact qq129):p:=h
theorem nn378(h:p:=by
 go_enter func110,ntmps110;have kqq56:=@Hz _ @nn163;exact qq56):p:=h
theorem and_step(ts:List Tok)(hE:Cx ts)(N:Nat)(ih:Hi ts N):GE ts (N+1) 10 .and 110:=by
 have kqq175:=@Hz _ @nn378;exact qq175
end
theorem infoStr:(prog.info? 9).map (fun i=>(i.zero,i.size,i.bytes))=some (some (vE),1,16):=by kernel_rfl
theorem infoPat:(prog.info? 123).map (fun i=>(i.zero,i.size,i.bytes))=some (some (.agg #[vI 0,vI 0,vE,vI 0,vE,vZ,vZ]),7,104):=by kernel_rfl
theorem infoArm:(prog.info? 125).map (fun i=>(i.zero,i.size,i.bytes))=some (some (.agg #[vI 0,vI 0,vE,vI 0,vE,vZ,vZ,vI 0,vI 0,vE,vI 0,vE,vZ,vZ,vZ]),15,232):=by kernel_rfl
theorem Iy{α:Type}{E:World→(Nat→Prop)→α→List Value→Prop}{TT:TypeId}{size:Nat}(hK:Fy E){P g c B T fld:Nat}{ts:List Tok}{st2:St}{w wr x8 w9:World}{ZB C:Obj}{VV VV':Array Value}{TY:TypeId}{v v':Value}{acc:List α}{x:α}{cs:List Value}{c6:Nat→List Value}
  (f8:Fr [P] wr x8) (hx:E x8 (fun b=>wr.heap.size≤b) x cs) (hl:cs.length=size) (hst2:PSt P g c ts st2 x8) (g0:wr.heap[B]?=some ZB) (q0:wr.heap[T]?=some (.cells VV TY (0,0)))
  {ok:Nat→Prop} (row:An E TT size wr ok v acc c6) (ho1:∀ b,ok b→¬ b=T∧¬ b=P∧¬ b=B∧¬ b=g) (ho2:∀ b,wr.heap.size≤b→ok b) (hwo:∀ b,ok b→w.heap.size≤b) (F:Fr [P] w wr) (hBT:¬ B=T) (hB:w.heap.size≤T) (hPB:P<B) (_hgB:g<B) (hP:P<T) (hg:g<T) (_hwB:w.heap.size≤B)
  (hown:w9.ownsRow 0 TT size v' (acc.length+1) (Co c6 acc.length++cs)) (hgrow:(x8.alloc C).grownBy w9 v.ownBlock) (hfp:Qb v v' (x8.alloc C).heap.size) (hVV:VV.setIfInBounds fld v'=VV'):
  Fr [P] w (w9.setCell ⟨T,fld,none⟩ v')∧(w9.setCell ⟨T,fld,none⟩ v').heap[B]?=some ZB∧(w9.setCell ⟨T,fld,none⟩ v').heap[T]?=some (.cells VV' TY (0,0))∧PSt P g c ts st2 (w9.setCell ⟨T,fld,none⟩ v')∧
  An E TT size (w9.setCell ⟨T,fld,none⟩ v') ok v' (acc++[x]) (fun i=>if i=acc.length then cs else c6 i)∧
  (∀ b,b<wr.heap.size→¬ b=T→¬ b=P→v.ownBlock≠some b→(w9.setCell ⟨T,fld,none⟩ v').heap[b]?=wr.heap[b]?∧b<(w9.setCell ⟨T,fld,none⟩ v').heap.size)∧
  (∀ b,v'.ownBlock=some b→v.ownBlock=some b∨wr.heap.size≤b)∧wr.heap.size≤(w9.setCell ⟨T,fld,none⟩ v').heap.size:=by
 have hs8:=f8.size;have hTlt:=Aa q0;have hBlt:=Aa g0;have blk:=row.blk;have olt:∀ gg,v.ownBlock=some gg→gg<wr.heap.size:=fun gg hg=>row.own_lt gg hg
 have fa:Fr [] x8 (x8.alloc C):=(Fr.refl [] x8).alloc _;have hxa:=hK _ (x8.alloc C) _ (fun b=>wr.heap.size≤b∧b<x8.heap.size) x cs hx (Sh.of_fr fa (fun b hb hlt=>⟨⟨hb,hlt⟩,fun x=>by cases x⟩));have rowa:=An.keep (w':=x8.alloc C) (ok':=ok) hK row (Sh.of_fr (f8.trans0 fa) (fun b hb hlt=>⟨hb,by simp;exact(ho1 b hb).2.1⟩));have row9:=An.app hK rowa hxa hl (fun b hb hlt=>⟨ho2 b hb.1,fun e=>by have:=olt b e;omega⟩) hown hgrow hfp (fun b hb=>by simp only[World.size_alloc] at hb;exact ho2 b oM);have fg:Fr v.ownBlock.toList (x8.alloc C) w9:=(Fr.refl _ _).append hgrow (fun gg hg => .inl (by simp[hg]));have nb:∀ b,¬ ok b→b ∉ v.ownBlock.toList:=fun b hb hm=>hb (blk b (by simpa using hm))
 have nP:¬ P=T:=by omega
 have g9:=fg.keep (fa.keep (f8.keep g0 sO) nE) (nb B (fun h=>(ho1 B h).2.2.1 rfl));have q9:=fg.keep (fa.keep (f8.keep q0 sO) nE) (nb T (fun h=>(ho1 T h).1 rfl));have h9:=(hst2.fr fa).frL fg (nb P (fun h=>(ho1 P h).2.1 rfl)) (nb g (fun h=>(ho1 g h).2.2.2 rfl));have F9:Fr [P] w w9:=((F.trans f8).trans0 fa).append hgrow (fun gg hg => .inr (hwo gg (blk gg hg)));have fs:=(Fr.refl [T] w9).setCell (p:=⟨T,fld,none⟩) (.inl sM) v';refine⟨F9.step fs (fun x hx => .inr (by simp at hx;omega)),fs.keep g9 sO,by rw[← hVV];exact Cl q9 fld v',h9.frL fs sO sO,An.keep (ok':=ok) hK row9 (Sh.of_fr fs (fun b hb hlt=>⟨hb,by simp;exact(ho1 b hb).1⟩)),fun b hb h1 h2 h3=>?_,fun b hb=>?_,?_⟩
 ·have e1:=f8.block b hb (by simpa using h2);have e2:=fa.block b oM (fun x=>by cases x);have e3:=fg.block b (by have:=fa.size;omega) (by simpa using fun e=>h3 e);have e4:=fs.block b (by have:=fa.size;have:=fg.size;omega) (by simpa using h1);exact⟨e4.trans (e3.trans (e2.trans e1)),by have:=fa.size;have:=fg.size;have:=fs.size;omega⟩
 ·rcases hfp b hb with h|h
  ·exact .inl h
  ·simp only[World.size_alloc] at h;exact .inr oM
 ·have:=fa.size;have:=fg.size;have:=fs.size;omega
theorem Fc{α:Type}{E:World→(Nat→Prop)→α→List Value→Prop}{TT:TypeId}{size:Nat}(hK:Fy E){P g c B T fld:Nat}{ts:List Tok}{st2:St}{w wr x8 w9:World}{ZB C:Obj}{VV VV':Array Value}{TY:TypeId}{v v':Value}{acc:List α}{x:α}{cs:List Value}{c6:Nat→List Value}
  (f8:Fr [P] wr x8) (hx:E x8 (fun b=>wr.heap.size≤b) x cs) (hl:cs.length=size) (hst2:PSt P g c ts st2 x8) (g0:wr.heap[B]?=some ZB) (q0:wr.heap[T]?=some (.cells VV TY (0,0)))
  (row:An E TT size wr (fun b=>B<b∧¬ b=T∧¬ b=P) v acc c6) (F:Fr [P] w wr) (hBT:¬ B=T) (hB:w.heap.size≤T) (hPB:P<B) (hgB:g<B) (hP:P<T) (hg:g<T) (hwB:w.heap.size≤B)
  (hown:w9.ownsRow 0 TT size v' (acc.length+1) (Co c6 acc.length++cs)) (hgrow:(x8.alloc C).grownBy w9 v.ownBlock) (hfp:Qb v v' (x8.alloc C).heap.size) (hVV:VV.setIfInBounds fld v'=VV'):
  Fr [P] w (w9.setCell ⟨T,fld,none⟩ v')∧(w9.setCell ⟨T,fld,none⟩ v').heap[B]?=some ZB∧(w9.setCell ⟨T,fld,none⟩ v').heap[T]?=some (.cells VV' TY (0,0))∧PSt P g c ts st2 (w9.setCell ⟨T,fld,none⟩ v')∧
  An E TT size (w9.setCell ⟨T,fld,none⟩ v') (fun b=>B<b∧¬ b=T∧¬ b=P) v' (acc++[x]) (fun i=>if i=acc.length then cs else c6 i)∧
  (∀ b,b<wr.heap.size→¬ b=T→¬ b=P→v.ownBlock≠some b→(w9.setCell ⟨T,fld,none⟩ v').heap[b]?=wr.heap[b]?∧b<(w9.setCell ⟨T,fld,none⟩ v').heap.size)∧
  (∀ b,v'.ownBlock=some b→v.ownBlock=some b∨wr.heap.size≤b)∧wr.heap.size≤(w9.setCell ⟨T,fld,none⟩ v').heap.size :=
 Iy hK f8 hx hl hst2 g0 q0 row (fun b hb=>⟨hb.2.1,hb.2.2,oM,oM⟩) (fun b hb=>⟨by have:=Aa g0;omega,by have:=Aa q0;omega,by have:=Aa g0;omega⟩) (fun b hb=>by have:=hb.1;omega) F hBT hB hPB hgB hP hg hwB hown hgrow hfp hVV
section
attribute [local go_sem ↓] Go.wp_at_zero Go.wp_at_succ
theorem Dg.fail{w0 w:World}{P:Nat}{S:Sc}{A:Option Addr}{c:Nat}(h:Dg w0 P S A c w)(e a:Int):Dg w0 P ⟨S.l,S.n,e,a⟩ A c ((w.setCell ⟨P,2,none⟩ (vI e)).setCell ⟨P,3,none⟩ (vI a))∧Fr (scL P A) w ((w.setCell ⟨P,2,none⟩ (vI e)).setCell ⟨P,3,none⟩ (vI a)):=by
 have hf:Fr [P] w ((w.setCell ⟨P,2,none⟩ (vI e)).setCell ⟨P,3,none⟩ (vI a)):=((Fr.refl [P] w).setCell (p:=⟨P,2,none⟩) (.inl sM) _).setCell (p:=⟨P,3,none⟩) (.inl sM) _;exact qq133
theorem Qu{w0 w:World}{P:Nat}{S:Sc}{A:Option Addr}{c:Nat}(h:Dg w0 P S A c w)(e a:Int):
  Calls prog 91 #[.pointer (some ⟨P,0,none⟩),vI e,vI a] w fun r w'=>r = .returned (.tuple #[])∧Stp w0 P A w (S.fail e a) A c w':=by
 have H:=Hz h;obtain⟨l0,l1,l2,l3,z0,z1,z2,z3⟩:=h.cells;clear h;by_cases h0:S.e=0
 ·have hb:(S.e==0)=true:=by simp[h0]
  have HF:=Hz (H.out.fail e a);have HS:S.fail e a=⟨S.l,S.n,e,a⟩:=by simp[Sc.fail,h0]
  rw[HS];clear HS h0;go_enter func91,ntmps91;go_wp2_with fail
  go_end0
  exact⟨rfl,HF.out.1,HF.out.2,fun a e => .inl e⟩
 ·have hb:(S.e==0)=false:=by simp[h0]
  have HS:S.fail e a=S:=by simp[Sc.fail,h0]
  rw[HS];clear HS;go_enter func91,ntmps91;go_wp2_with fail
  go_end0
  exact⟨rfl,Stp.refl H.out⟩
theorem infoBound:(prog.info? 149).map (fun i=>(i.zero,i.size,i.bytes))=some (some (.agg #[vE,vI 0]),2,24):=by kernel_rfl
theorem Dg.next{w0 w:World}{P:Nat}{S:Sc}{A:Option Addr}{c:Nat}(h:Dg w0 P S A c w)(n:Int):Dg w0 P ⟨S.l,n,S.e,S.at_⟩ A c (w.setCell ⟨P,1,none⟩ (vI n))∧Fr (scL P A) w (w.setCell ⟨P,1,none⟩ (vI n)):=by
 have hf:Fr [P] w (w.setCell ⟨P,1,none⟩ (vI n)):=(Fr.refl [P] w).setCell (p:=⟨P,1,none⟩) (.inl sM) _;exact qq133
theorem Dg.names{w0 v w:World}{P:Nat}{S:Sc}{A A':Option Addr}{c c':Nat}(h:Dg w0 P S A c v)(l:List (List UInt8×Int))(hf:Fr (scL P A) v w)(hb:w.heap[P]?=v.heap[P]?)
  (hrow:w.ownsRow 0 149 2 (.slice A' l.length c') l.length (Jn l)) (hown:∀ a,A'=some a→A=some a∨v.heap.size≤a.block):
  Stp w0 P A v ⟨l,S.n,S.e,S.at_⟩ A' c' (w.setCell ⟨P,0,none⟩ (.slice A' l.length c')):=by
 have hlt:=h.lt;have hle:=h.le
 have hown2:∀ a,A'=some a→w0.heap.size≤a.block∧a.block≠P:=fun a e=>by
  rcases hown a e with h1|h1
  ·exact h.own a h1
  ·omega
 have hf1:Fr [P] w (w.setCell ⟨P,0,none⟩ (.slice A' l.length c')):=(Fr.refl [P] w).setCell (p:=⟨P,0,none⟩) (.inl sM) _;have hf2:Fr (scL P A) v (w.setCell ⟨P,0,none⟩ (.slice A' l.length c')):=hf.step hf1 (fun x hx => .inl (by simp at hx;subst hx;exact Ay.2 (.inl rfl)));refine⟨⟨?_,Dv hrow hf1 (fun g e=>?_),h.old,hown2,h.fr.step hf2 (fun x hx => .inr ?_)⟩,hf2,hown⟩
 ·have:=hb.trans h.blk;exact qq189
 ·cases A' with
  | none=>cases e
  | some b=>cases e;simpa using(hown2 b rfl).2
 ·rcases Ay.1 hx with rfl|⟨a,e,rfl⟩
  ·exact h.old
  ·exact(h.own a e).1
theorem Ju{w0 w:World}{P:Nat}{S:Sc}{A:Option Addr}{c:Nat}(h:Dg w0 P S A c w)(nm:LB)(hl:S.l.length≤1099511627776)(h0:0≤S.n)(h1:S.n≤1099511627776):
  Calls prog 39 #[.pointer (some ⟨P,0,none⟩),vS nm] w fun r w'=>∃ A' c',r = .returned (vI S.n)∧Stp w0 P A w (S.bind nm) A' c' w':=by
 have H:=Hz h;obtain⟨l0,l1,l2,l3,z0,z1,z2,z3⟩:=h.cells;obtain⟨K1,F1⟩:=h.next (S.n+1);have HL:=Hz hl;clear h hl;have HK:=Hz K1;have HF:=Hz F1;obtain⟨m0,m1,m2,m3,y0,y1,y2,y3⟩:=K1.cells;have hlt:=K1.lt;clear K1 F1;have q1:S.n+1-1=S.n:=by omega
 by_cases hq:nm=[95]
 ·have hb:(nm==[95])=true:=by simp[hq]
  have HS:S.bind nm=⟨S.l,S.n+1,S.e,S.at_⟩:=by simp[Sc.bind,hq]
  rw[HS];clear HS hq;go_enter func39,ntmps39;go_wp2_with fail;go_ret;exact⟨sM,A,c,HK.out,HF.out,fun a e => .inl e⟩
 ·have hb:(nm==[95])=false:=by simp[hq]
  have HS:S.bind nm=⟨S.l++[(nm,S.n)],S.n+1,S.e,S.at_⟩:=by simp[Sc.bind,hq]
  rw[HS];clear HS hq;obtain⟨i0,hi,hz0,hz1,hz2⟩:=info_parts infoBound;have HI:=Hz hi;have HZ0:=Hz hz0;have HZ1:=Hz hz1;have HZ2:=Hz hz2;clear hi hz0 hz1 hz2;go_enter func39,ntmps39;go_wp2_with fail;clear l0 l1 l2 l3 z0 z1 z2 z3
  generalize hx:w.setCell ⟨P,1,none⟩ (vI (S.n+1))=x at *
  have hPA:∀ a,A=some a→¬ P=a.block:=fun a e=>fun h=>(HK.out.own a e).2 h.symm
  have hPB:some P≠(Value.slice A S.l.length c).ownBlock:=fun e=>by
   cases A with
   | none=>cases e
   | some a=>cases e;exact hPA a rfl rfl
  have n0:=World.new_ne x ⟨P,0,none⟩ m0;have n1:=World.new_ne x ⟨P,1,none⟩ m1;have cP:=Ar HK.out.blk;refine Db 16 (fun w'=>w'.cell? ⟨P,1,none⟩=some (vI (S.n+1))∧w'.cell? ⟨P,0,none⟩=some (.slice A S.l.length c)) kR kR rfl ⟨cP.2.1,cP.1⟩ (fun K hK hHeld=>?hsb);dsimp only[List.take];refine Af (i:=0) (v:=?vb_0) rfl kR kR kR (fun _ _ _ h=>h) (Or.inl ⟨by rfl,?yb_0⟩) hHeld ?rb_0
  case yb_0 =>
   exact qq54
  (try simp only[Act.put,sX])
  refine Af (i:=1) (v:=?vb_1) rfl kR kR kR (fun _ _ _ h=>h) (Or.inl ⟨by rfl,?yb_1⟩) hHeld ?rb_1
  case yb_1 =>
   exact qq54
  (try simp only[Act.put,sX])
  refine Af (i:=2) (v:=?vb_2) rfl kR kR kR (fun _ _ _ h=>h) (Or.inl ⟨by rfl,?yb_2⟩) hHeld ?rb_2
  case yb_2 =>
   exact qq54
  (try simp only[Act.put,sX])
  refine Af (i:=3) (v:=?vb_3) rfl kR kR kR (fun _ _ _ h=>h) (Or.inl ⟨by rfl,?yb_3⟩) hHeld ?rb_3
  case yb_3 =>
   exact qq54
  (try simp only[Act.put,sX])
  refine Af (i:=4) (v:=?vb_4) rfl kR kR kR (fun _ _ _ h=>h) (Or.inl ⟨by rfl,?yb_4⟩) hHeld ?rb_4
  case yb_4 =>
   exact qq54
  (try simp only[Act.put,sX])
  refine Af (i:=5) (v:=?vb_5) rfl kR kR kR (fun _ _ _ h=>h) (Or.inl ⟨by rfl,?yb_5⟩) hHeld ?rb_5
  case yb_5 =>
   exact qq54
  (try simp only[Act.put,sX])
  refine Af (i:=6) (v:=?vb_6) rfl kR kR kR (fun _ _ _ h=>h) (Or.inl ⟨by rfl,?yb_6⟩) hHeld ?rb_6
  case yb_6 =>
   exact qq54
  (try simp only[Act.put,sX])
  refine Af (i:=7) (v:=?vb_7) rfl kR kR kR (fun _ _ _ h=>h) (Or.inl ⟨by rfl,?yb_7⟩) hHeld ?rb_7
  case yb_7 =>
   exact qq54
  (try simp only[Act.put,sX])
  refine Af (i:=8) (v:=?vb_8) rfl kR kR kR (fun _ _ _ h=>h) (Or.inl ⟨by rfl,?yb_8⟩) hHeld ?rb_8
  case yb_8 =>
   exact qq54
  (try simp only[Act.put,sX])
  refine Af (i:=9) (v:=?vb_9) rfl kR kR kR (fun _ _ _ h=>h) (Or.inl ⟨by rfl,?yb_9⟩) hHeld ?rb_9
  case yb_9 =>
   exact qq54
  (try simp only[Act.put,sX])
  refine Af (i:=10) (v:=?vb_10) rfl kR kR kR (fun _ _ _ h=>h) (Or.inl ⟨by rfl,?yb_10⟩) hHeld ?rb_10
  case yb_10 =>
   exact qq54
  (try simp only[Act.put,sX])
  refine Af (i:=11) (v:=?vb_11) rfl kR kR kR (fun _ _ _ h=>h) (Or.inl ⟨by rfl,?yb_11⟩) hHeld ?rb_11
  case yb_11 =>
   exact qq54
  (try simp only[Act.put,sX])
  refine Am (i:=12) rfl kR (fun K1 hK1=>?tb_12);go_simp;go_simp;refine hK1.out _ _ (⟨(Ar (Ae HK.out.blk _)).2.1,(Ar (Ae HK.out.blk _)).1⟩) (fun hHeld=>?ub_12);clear hK1 K1
  (try simp only[Act.put,sX])
  refine Am (i:=13) rfl kR (fun K1 hK1=>?tb_13);refine Av rF _ _ 60 rF 149 i0 _ 2 24 underlying60 HI.out HZ0.out HZ1.out HZ2.out rfl dC (.slice A S.l.length c) S.l.length (Jn S.l) rF (Dv HK.out.row ((Fr.refl [] x).drew.alloc _) (fun _ _ h=>by cases h)) ⟨x.heap.size,0,none⟩ 1 1 [vS nm,vI (IntKind.i64.wrap S.n)] rF rfl (World.news_of_block (Ag x.drew _)) (by simp[Value.oneCell']) (by simp only[maxLen];have:=HL.out;omega) (by have:=HL.out;omega) ?_;intro v9 w9 hown9 hgrow9 hfp9;obtain⟨g9,cp9,hv9⟩:=Cd hown9;subst hv9;have GB:=(hgrow9.block P sO hPB).trans ((Ae (w:=x.drew) HK.out.blk (.cells #[vS nm,vI (IntKind.i64.wrap S.n)] 149)));obtain⟨l0,l1,l2,l3,z0,z1,z2,z3⟩:=Ar GB;refine hK1.out _ _ (⟨l1,l0⟩) (fun hHeld=>?ub_13);clear hK1 K1
  (try simp only[Act.put,sX])
  refine Af (i:=14) (v:=?vb_14) rfl kR kR kR (fun _ _ _ h=>h) (Or.inl ⟨by rfl,?yb_14⟩) hHeld ?rb_14
  case yb_14 =>
   exact qq54
  (try simp only[Act.put,sX])
  refine Af (i:=15) (v:=?vb_15) rfl kR kR kR (fun _ _ _ h=>h) (Or.inl ⟨by rfl,?yb_15⟩) hHeld ?rb_15
  case yb_15 =>
   exact qq54
  (try simp only[Act.put,sX])
  refine wpAnyH_done kR ?_ _;refine Ea rfl (fun Q'=>?_);go_simp;refine hK.out _ _ ?_;clear hK K
  all_goals
   have hw:IntKind.i64.wrap S.n=S.n:=by rw[IntKind.wrap_i64];omega
   rw[hw] at hown9 hgrow9
   have hf9:Fr (scL P A) x w9:=by
    refine Fr.grown ?_ hgrow9 ?_
    ·first|exact((Fr.refl _ x).drew.alloc _)| exact((Fr.refl _ x).alloc _).drew
    ·intro k e
     cases A with
     | none=>cases e
     | some a=>cases e;exact .inl (Ay.2 (.inr ⟨a,rfl,rfl⟩))
   have hst:Stp w0 P A x ⟨S.l++[(nm,S.n)],S.n+1,S.e,S.at_⟩ (some ⟨g9,0,none⟩) cp9 (w9.setCell ⟨P,0,none⟩ (.slice (some ⟨g9,0,none⟩) (S.l.length+1) cp9)):=by
    have:=HK.out.names (S.l++[(nm,S.n)]) (A':=some ⟨g9,0,none⟩) (c':=cp9) hf9 (GB.trans HK.out.blk.symm) (by rw[bndsC_app,La'];exact hown9) (fun a e=>by
     cases e
     rcases hfp9 g9 rfl with h|h
     ·cases A with
      | none=>cases h
      | some a =>
       have e1:=HK.out.addr a rfl
       simp[Value.ownBlock] at h
       rw[h] at e1
       exact .inl (by rw[e1])
     ·right;simp at h ⊢;omega)
    rw[La',List.length_singleton] at this;exact this
   have HT:Hid (Stp w0 P A w ⟨S.l++[(nm,S.n)],S.n+1,S.e,S.at_⟩ (some ⟨g9,0,none⟩) cp9 (w9.setCell ⟨P,0,none⟩ (.slice (some ⟨g9,0,none⟩) (S.l.length+1) cp9))):=Hz (Stp.trans ⟨HK.out,HF.out,fun a e => .inl e⟩ hst);obtain⟨r0,r1,r2,r3,t0,t1,t2,t3⟩:=hst.1.cells;dsimp only at r0 r1;clear l0 l1 l2 l3 z0 z1 z2 z3 hst GB m0 m1 m2 m3 y0 y1 y2 y3 HK HF H;go_wp2_with fail;go_ret;exact⟨sM,_,_,HT.out⟩
def StrsO(g o:Nat)(l:List LB)(w:World):Prop:=∀ (i:Nat)(x:LB),l[i]?=some x→w.cell? ⟨g,o+i,none⟩=some (vS x)
theorem nn570(h:p:=by
 by_cases hq:l[k]=x
 ·have hR:=HX1.out hq;subst hR;have hq2:(x==l[k])=true:=by rw[hq];simp
  exact qq295
 ·have HS2:=HS hq;have hq2:(x==l[k])=false:=by rw[bN];exact fun h=>hq h.symm
  clear hq HS HX1;exact qq159):p:=h
theorem Y6(g o c:Nat)(l:List LB)(x:LB)(hl:l.length≤8796093022208)(w:World)(h:StrsO g o l w):
  Calls prog 118 #[.slice (some ⟨g,o,none⟩) l.length c,vS x] w (IdxP (l.contains x) w):=by
 have HX:Hid (∀ j (hj:j<l.length),l[j]=x→l.contains x=true):=Hz (fun j hj e=>List.contains_iff_mem.2 (e ▸ List.getElem_mem hj))
 have HN:Hid ((∀ j (hj:j<l.length),l[j]≠x)→l.contains x=false):=Hz (fun hn=>by
  rw[Bool.eq_false_iff]
  intro hc
  obtain⟨j,hj,e⟩:=List.mem_iff_getElem.1 (List.contains_iff_mem.1 hc)
  exact hn j hj e)
 generalize l.contains x=R at *
 have HC:=Hz h;clear h;go_enter func118,ntmps118;go_wp2_with fail
 go_loop [8] (fun i=>∃ k:Nat,i=vI k∧k≤l.length∧Hid (∀ j (hj:j<l.length),j<k→l[j]≠x)) (fun i=>l.length-(intOf i).toNat)
 case atStart=>exact⟨0,rfl,oM,Hz (fun j _ h=>absurd h oM)⟩
 case round =>
  obtain⟨k,rfl,hk,HK⟩:=hrel;by_cases hlt:k<l.length
  ·have hcell:=HC.out k _ (Lg' hlt);have HX1:=Hz (HX.out k hlt);have kqq312:=@Hz _ @nn570;exact qq312
  ·exact qq285
theorem Nk(g o c:Nat)(l:List LB)(x:LB)(hl:l.length≤8796093022208)(w:World)(h:StrsO g o l w):
  Calls prog 92 #[.slice (some ⟨g,o,none⟩) l.length c,vS x] w fun e w'=>e = .returned (.bool (l.contains x))∧w=w':=by
 have cc:=Hz (Y6 g o c l x hl w h)
 generalize l.contains x=R at *
 clear h;go_enter func92,ntmps92;go_wp2_with fail;refine cc.out.mono ?_;rintro e w1 ⟨n,rfl,hn,rfl⟩;go_wp2_with fail;go_ret;exact⟨by simp[← hn],rfl⟩
theorem infoStr8:(prog.info? 9).map (fun i=>(i.zero,i.size,i.bytes))=some (some (vE),1,16):=by kernel_rfl
theorem Zl(ls:List LB):Co (fun i=>Gk (ls.getD i [])) ls.length=ls.map (fun s=>Value.string ⟨s.toArray⟩):=by
 have:(List.range ls.length).flatMap (fun i=>Gk (ls.getD i []))=(List.range ls.length).map (fun i=>Value.string ⟨(ls.getD i []).toArray⟩):=by
  induction ls.length with
  | zero=>rfl
  | succ n ih=>simp only[List.range_succ,List.flatMap_append,List.map_append,ih];rfl
 unfold Co;rw[this];apply List.ext_getElem?;intro i;rw[List.getElem?_map,List.getElem?_map];by_cases h:i<ls.length
 ·simp[List.getElem?_range h,h]
 ·simp[h]
def CloneP(w:World)(ls:List LB)(e:Ending)(w':World):Prop:=∃ v cs,e = .returned v∧Gp w' (fun b=>w.heap.size≤b) v ls cs∧Fr [] w w'
theorem Clone_any(w:World)(ok:Nat→Prop)(ls:List LB)(A:Option Addr)(c:Nat)(d:Nat→List Value)(h:En w ok (.slice A ls.length c) ls.length 1 d)(he:∀ (i:Nat)(x:LB),ls[i]?=some x→d i=Gk x)(hl:ls.length≤8796093022208):
  Calls prog 93 #[.slice A ls.length c] w (CloneP w ls):=by
 have q22:∀ (w:World) (a:Option Addr) (n c n' c':Nat),(binOp .eql 23 (.slice a n c) (.slice none n' c')).run prog w = .ok (.bool a.isNone) w:=fun w a n c n' c'=>Lib.run_eql_slice_nil w _ _ a n c n' c' underlying23
 cases A with
 | none =>
  have h0:ls=[]:=by
   rcases ls with _|⟨x,l⟩
   ·rfl
   ·obtain⟨g,o,e,_⟩:=h.row (i:=0) sM;cases e
  subst h0;go_enter func93,ntmps93;go_wp2_with fail;go_ret
  exact⟨_,fun _=>[],rfl,An.nil_,Fr.refl _ _⟩
 | some a =>
  obtain⟨i0,hi,hz0,hz1,hz2⟩:=info_parts infoStr8;have HI:=Hz hi;have HZ0:=Hz hz0;have HZ1:=Hz hz1;have HZ2:=Hz hz2;have H:=Hz h;have HE:=Hz he;clear hi hz0 hz1 hz2 h he
  have hcell:∀ (k:Nat) (u:Value),(ls.map (fun s=>Value.string ⟨s.toArray⟩))[k]?=some u→w.cell? (a.add k)=some u:=fun k u hu=>by
   rw[List.getElem?_map] at hu
   cases hx:ls[k]? with
   | none=>rw[hx] at hu;cases hu
   | some x =>
    rw[hx] at hu;obtain⟨g,o,e,_,_,_,_,hc⟩:=H.out.row (i:=k) (List.getElem?_eq_some_iff.1 hx).1;cases e;rw[HE.out k x hx] at hc;have:=hc 0 _ rfl;simp only[Option.map_some,Option.some.injEq] at hu;rw[← hu];have e2:(⟨g,o,none⟩:Addr).add k=⟨g,o+k,none⟩:=by cases k <;> simp[Addr.add]
    rw[e2];simpa using this
  have HC:=Hz hcell;clear hcell;go_enter func93,ntmps93;go_wp2_with (at_builtin;refine D2 _ rfl _ _ 23 rfl 9 i0 _ 1 16 underlying23 HI.out HZ0.out HZ1.out HZ2.out rfl dC (.slice (some ⟨w.heap.size,0,none⟩) 0 0) 0 [] rfl (World.ownsRow_made (base:=0) w #[] 0 (Nat.zero_le _) (Nat.zero_le _) rfl) a ls.length c (ls.map (fun s=>Value.string ⟨s.toArray⟩)) rfl sM (fun k u hu=>by have:=HC.out k u hu;exact(((Fr.refl [] w).alloc (.cells #[] 9)).cell (p:=a.add k) (World.block_lt_of_cell? w _ this) (fun x=>by cases x)).trans this) (by simp[Value.oneCell']) (by simp only[maxLen];omega) oM ?_;intro v9 w9 hown9 hgrow9 hfp9);go_ret;refine⟨v9,fun i=>Gk (ls.getD i []),rfl,⟨?_,fun i hi=>rfl,fun g hg=>?_,fun i x hx=>?_⟩,?_⟩
  ·rw[Zl,Nat.zero_add] at *
   exact hown9
  ·rcases hfp9 g hg with h|h
   ·simp[Value.ownBlock] at h;omega
   ·simp at h;omega
  ·show Gk _=Gk x;rw[List.getD_eq_getElem?_getD,hx];rfl
  ·exact((Fr.refl [] w).alloc _).grown hgrow9 (fun k e=>by simp[Value.ownBlock] at e;exact .inr oM)
theorem Tq(l:List LB)(x:LB):Ni (l++[x])=(Ni l||l.contains x):=by
 induction l with
 | nil=>simp[Ni]
 | cons y l ih =>
  rw[Lp',Ni,Ni,ih,List.contains_append];simp only[List.contains_cons,List.contains_nil,Bool.or_false];have hc:(x==y)=(y==x):=by rw[Bool.eq_iff_iff,beq_iff_eq,beq_iff_eq];exact eq_comm
  rw[hc];cases l.contains y <;> cases (y==x)<;> cases Ni l <;> cases l.contains x <;> rfl
theorem Xg(S:Sc)(ls:List LB)(x:LB)(a:Int):S.labels (ls++[x]) a=if ls.contains x=true then (S.labels ls a).fail 24 a else S.labels ls a:=by
 unfold Sc.labels;rw[Tq];by_cases h1:Ni ls=true
 ·have hff:(S.fail 24 a).fail 24 a=S.fail 24 a:=by
   unfold Sc.fail;by_cases h:S.e=0 <;> simp[h]
  by_cases h2:ls.contains x=true
  ·rw[if_pos (by rw[h1];rfl),if_pos h2,if_pos h1,hff]
  ·rw[if_pos (by rw[h1];rfl),if_neg h2,if_pos h1]
 ·by_cases h2:ls.contains x=true
  ·rw[if_pos (by rw[h2,Bool.or_true]),if_pos h2,if_neg h1]
  ·rw[if_neg (by simp at h1 h2 ⊢;exact⟨h1,h2⟩),if_neg h2,if_neg h1]
theorem nn542(h:p:=by
 exact(HK.out.1.fr.cell (p:=⟨g,o+i,none⟩) hg' (fun x=>by cases x)).trans (by have:=hc' 0 _ rfl;simpa using this)):p:=h
theorem Rq{w0 w:World}{P:Nat}{S:Sc}{A:Option Addr}{c:Nat}(h:Dg w0 P S A c w){ok:Nat→Prop}(ls:List LB)(A5:Option Addr)(c5:Nat)(d5:Nat→List Value)(h5:En w0 ok (.slice A5 ls.length c5) ls.length 1 d5)(e5:∀ (i:Nat)(x:LB),ls[i]?=some x→d5 i=Gk x)(a:Int)(hl:ls.length≤8796093022208):
  Calls prog 42 #[.pointer (some ⟨P,0,none⟩),.slice A5 ls.length c5,vI a] w fun e w'=>∃ v cs,e = .returned v∧Gp w' (fun b=>w.heap.size≤b) v ls cs∧Stp w0 P A w (S.labels ls a) A c w':=by
 have H:=Hz h;have H5:=Hz h5;have E5:Hid (∀ (i:Nat) (x:LB),ls[i]?=some x→d5 i=Gk x):=Hz e5;clear h h5 e5;go_enter func42,ntmps42;go_wp2_with fail
 go_loopw [11] (fun iv wr=>∃ k:Nat,iv=vI k∧k≤ls.length∧Hid (Stp w0 P A w (S.labels (ls.take k) a) A c wr)) (fun iv wr=>ls.length-(intOf iv).toNat)
 case atStart=>exact⟨0,rfl,oM,Hz (by simpa [Sc.labels,Ni] using Stp.refl H.out)⟩
 case round =>
  obtain⟨k,rfl,hk,HK⟩:=hrel;have q1:(0:Int)≤(k:Int):=by omega
  by_cases hlt:k<ls.length
  ·obtain⟨y,hy⟩:∃ y,ls[k]?=some y:=⟨ls[k],Lg' hlt⟩
   have hcap:=H5.out.cap oM;obtain⟨g,o,rfl,_,hg,_,_,hc⟩:=H5.out.row hlt
   have hso:StrsO g o (ls.take k) wr:=fun i x hx=>by
    have kqq277:=@Hz _ @nn542;exact qq277
   rw[E5.out k y hy] at hc;have x0:wr.cell? ⟨g,o+k,none⟩=some (vS y):=(HK.out.1.fr.cell (p:=⟨g,o+k,none⟩) hg (fun x=>by cases x)).trans (by have:=hc 0 _ rfl;simpa using this);have hlk:(ls.take k).length=k:=by rw[List.length_take];omega
   have cC:=Nk g o c5 (ls.take k) y oM wr hso;rw[hlk] at cC;have CC:=Hz cC;have hsn:=Xg S (ls.take k) y a;rw[show ls.take k++[y]=ls.take (k+1) by rw[List.take_add_one,hy];rfl] at hsn;have HSN:=Hz hsn;have q2:(k:Int)<(ls.length:Int):=by omega
   have q3:(k:Int)≤(c5:Int):=by omega
   have q4:k≤c5:=by omega
   clear hc hy hso cC hsn hlk
   generalize hb:(ls.take k).contains y=B at *
   generalize S.labels (ls.take k) a=S1 at *
   generalize hS2:S.labels (ls.take (k+1)) a=S2 at *
   go_wp2_with fail;refine CC.out.mono ?_;rintro e w2 ⟨rfl,rfl⟩
   cases B with
   | true =>
    have hs:=HSN.out;rw[if_pos rfl] at hs;subst hs;go_wp2_with fail;refine(Qu HK.out.1 24 a).mono ?_;rintro e w3 ⟨rfl,h3⟩;go_wp2_with fail
    go_roundw
    case rel=>exact⟨k+1,by go_num,oM,Hz (hS2 ▸ HK.out.trans h3)⟩
    case measure=>simp[intOf];omega
   | false =>
    have hs:=HSN.out;rw[if_neg dC] at hs;subst hs;go_wp2_with fail
    go_roundw
    case rel=>exact⟨k+1,by go_num,oM,Hz (hS2 ▸ HK.out)⟩
    case measure=>simp[intOf];omega
  ·have q2:¬ (k:Int)<(ls.length:Int):=by omega
   have hkk:ls.take k=ls:=List.take_of_length_le oM;rw[hkk] at HK;have CL:=Hz (Clone_any wr ok ls A5 c5 d5 (H5.out.keep (Sh.of_fr HK.out.1.fr (fun b hb _=>⟨hb,fun x=>by cases x⟩))) E5.out hl);clear hkk hlt;go_wp2_with fail;refine CL.out.mono ?_;rintro e w2 ⟨v,cs,rfl,hr,f2⟩;go_wp2_with fail;go_ret;have hs:=HK.out.2.1.size;exact⟨v,cs,rfl,hr.keep Cg (Sh.of_fr (Fr.refl [] _) (fun b hb _=>⟨Nat.le_trans hs hb,fun x=>by cases x⟩)),HK.out.fr0 f2⟩
end
section
open Go.RowKit Go.Shelf
attribute [local go_sem] Oper.semAt_some
abbrev Bnd:=List UInt8×Int
def Ku(l:List Bnd):List (Nat×Bnd):=(List.range l.length).reverse.map (fun i=>(i,l.getD i ([],0)))
theorem Yc(l:List Bnd):(Ku l).length=l.length:=by simp[Ku]
theorem revB_at(l:List Bnd){k:Nat}(h:k<l.length):(Ku l)[k]?=some (l.length-1-k,l.getD (l.length-1-k) ([],0)):=by
 unfold Ku;rw[List.getElem?_map,List.getElem?_reverse (by simpa using h),List.length_range,List.getElem?_range oM];rfl
theorem revB_snoc(l:List Bnd)(b:Bnd):Ku (l++[b])=(l.length,b)::Ku l:=by
 unfold Ku;rw[La',List.length_singleton,List.range_succ,List.reverse_append,List.reverse_singleton,List.singleton_append,List.map_cons]
 congr 1
 ·rw[List.getD_eq_getElem?_getD];simp
 ·apply List.map_congr_left;intro i hi;have:i<l.length:=by simpa using hi
  rw[List.getD_eq_getElem?_getD,List.getD_eq_getElem?_getD,List.getElem?_append_left this]
theorem Zj(nm:LB)(l:List Bnd)(b:Bnd):Jo nm (l++[b])=if b.1=nm then some b.2 else Jo nm l:=by
 induction l with
 | nil=>simp[Jo]
 | cons c l ih =>
  rw[Lp',Jo,ih,Jo];by_cases h:b.1=nm
  ·simp[h]
  ·simp[h]
theorem Rn(nm:LB)(l:List Bnd):Jo nm l=((Ku l).find? (fun y=>y.2.1==nm)).map (fun y=>y.2.2):=by
 suffices h:∀ (n:Nat) (l:List Bnd),l.length=n→Jo nm l=((Ku l).find? (fun y=>y.2.1==nm)).map (fun y=>y.2.2)from h _ l rfl
 intro n
 induction n with
 | zero=>intro l h;rw[List.length_eq_zero_iff.1 h];rfl
 | succ n ih =>
  intro l h;have hne:l≠[]:=by intro e;rw[e] at h;cases h
  rw[← List.dropLast_concat_getLast hne,Zj,revB_snoc,List.find?_cons,ih _ (by simp[h])];by_cases e:(l.getLast hne).1=nm
  ·simp[e]
  ·have e2:((l.getLast hne).1==nm)=false:=by simpa using e
   simp[e,e2]
def bndV(y:Nat×Bnd):Array Value:=#[vI y.1,.agg #[.string ⟨y.2.1.toArray⟩,vI y.2.2]]
theorem rev_in(n:Nat)(hn:1≤n)(b B:Nat)(hB:b<B)(w:World)(l:List Bnd)(A:Option Addr)(c:Nat)(hl:l.length≤1099511627776)
  (hs:w.heap[b]?=some (.cells #[.slice A l.length c] 60 (0,0)))
  (hrow:∀ (i:Nat) (x:Bnd),l[i]?=some x→∃ g,A=some ⟨g,0,none⟩∧g<B∧w.cell? ⟨g,i * 2,none⟩=some (.string ⟨x.1.toArray⟩)∧w.cell? ⟨g,i * 2+1,none⟩=some (vI x.2)):
  Qn Fence.wide n prog 117 #[.pointer (some ⟨b,0,none⟩)] bndV b B (fun xs=>xs=Ku l) (fun pre=>pre <+: Ku l) l.length w:=by
 intro lp J Jx W hW hJ hJx hY h0;refine callsIn_of_wp func117 rfl trivial ?_ rfl;simp only[ntmps117,List.size_toArray,Lc',Ln',Nat.reduceAdd,Nat.reduceSub,Array.replicate_succ,Array.replicate_zero,List.push_toArray,List.append_toArray,List.nil_append,Lp'];have cs:W.cell? ⟨b,0,none⟩=some (.slice A l.length c):=by rw[Ab ((hW.block b oM).trans hs)];rfl
 have hW2:=Hz hW;have HL:=Hz hl
 gi_wp2
 gi_loopw [3] (fun iv wr=>∃ (k:Nat) (z:Int),iv=vI z∧z=(l.length:Int)-1-k∧k≤l.length∧Hid (Below B W wr)∧J ((Ku l).take k) wr) (fun iv wr=>(intOf iv+1).toNat)
 case atStart=>exact⟨0,_,rfl,sM,oM,Hz (Below.refl _ _),h0⟩
 case round =>
  obtain⟨k,z,rfl,hz,hk,HB,hJk⟩:=hrel;have cs':wr.cell? ⟨b,0,none⟩=some (.slice A l.length c):=(World.cell?_of_block (HB.out.block b hB)).trans cs;by_cases hlt:k<l.length
  ·obtain⟨i,hi⟩:∃ i:Nat,l.length=i+1+k:=⟨l.length-1-k,oM⟩
   have hzi:z=(i:Int):=by omega
   subst hzi;clear hz;have hat:=revB_at l hlt;rw[show l.length-1-k=i by omega] at hat
   obtain⟨x,hx⟩:∃ x,l[i]?=some x:=⟨l[i]'(by omega),Lg' oM⟩
   rw[List.getD_eq_getElem?_getD,hx] at hat;simp only[Option.getD_some] at hat;obtain⟨g,rfl,hg,hc1,hc2⟩:=hrow i x hx;have hbg:wr.heap[g]?=w.heap[g]?:=(HB.out.block g hg).trans (hW2.out.block g hg);have d1:wr.cell? ⟨g,i * 2,none⟩=some (.string ⟨x.1.toArray⟩):=(World.cell?_of_block hbg).trans hc1;have d2:wr.cell? ⟨g,i * 2+1,none⟩=some (vI x.2):=(World.cell?_of_block hbg).trans hc2;have hlen:((Ku l).take k).length=k:=by rw[List.length_take,Yc];omega
   have htk:(Ku l).take k++[(i,x)]=(Ku l).take (k+1):=by rw[List.take_add_one,hat];rfl
   have hY1:=hY ((Ku l).take k) (i,x) wr hJk oM;rw[htk] at hY1;unfold bndV at hY1;obtain⟨fn,tmps,assign,body,hy,hR⟩:=hY1;have q1:(0:Int)≤(i:Int):=by omega
   have q2:(i:Int)<(l.length:Int):=by omega
   have q3:i<l.length:=by omega
   have hbig:l.length≤1099511627776:=HL.out;have HI:=Hz hi;clear hat hx hc1 hc2 hbg hlen htk hrow hs cs hY hW hi
   gi_wp2
   refine hR.mono ?_;rintro e V (⟨rfl,hJ',hk'⟩| ⟨rfl,hJx'⟩)
   ·gi_wp2
    exact⟨⟨k+1,_,rfl,by have:=HI.out;omega,oM,Hz (HB.out.trans hk'),hJ'⟩,by simp[intOf]⟩
   ·gi_wp2
    refine bodyPost_ret (results_none rfl _ _ _) rfl ?_;exact⟨⟨_,rfl⟩,.inr ⟨(Ku l).take (k+1),List.take_prefix _ _,hJx'⟩⟩
  ·have hkl:k=l.length:=by omega
   have hz2:decide ((0:Int)≤z)=false:=decide_eq_false oM;have hz3:¬ (0:Int)≤z:=by omega
   have hall:(Ku l).take k=Ku l:=List.take_of_length_le (by rw[Yc];omega);rw[hall] at hJk;clear hz hk hlt hkl hall
   gi_wp2
   go_end0
   exact⟨⟨_,rfl⟩,.inl hJk⟩
end
section
open Go.RowKit Go.Shelf
attribute [local go_sem] Oper.semAt_some
theorem Uw(A:Option Addr)(n c:Nat)(w:World):
  Calls prog 90 #[.slice A n c] w fun e w'=>e = .returned (.func (.func 117) #[] #[.pointer (some ⟨w.heap.size,0,none⟩)])∧w'=w.alloc (.cells #[.slice A n c] 60):=by
 go_enter func90,ntmps90;exact qq104
theorem Zk{α:Type}{p:α→Bool}{l pre:List α}{x:α}(hp:pre++[x] <+: l)(hn:∀ y ∈ pre,p y=false)(hx:p x=true):l.find? p=some x:=by
 exact qq279
def FndI(nm:LB)(w:World)(pre:List (Nat×Bnd))(W:World):Prop:=W.heap[w.heap.size]?=some (.cells #[vS nm] 9 (0,0))∧W.heap[w.heap.size+1]?=some (.cells #[vI 0] 3 (0,0))∧Below w.heap.size w W∧∀ y ∈ pre,(y.2.1==nm)=false
def FndX(nm:LB)(w:World)(pre:List (Nat×Bnd))(W:World):Prop:=∃ pre' x,pre=pre'++[x]∧(∀ y ∈ pre',(y.2.1==nm)=false)∧(x.2.1==nm)=true∧W.heap[w.heap.size+1]?=some (.cells #[vI x.2.2] 3 (0,0))∧Below w.heap.size w W
theorem sc_find{w0 w:World}{P:Nat}{S:Sc}{A:Option Addr}{c:Nat}(h:Dg w0 P S A c w)(nm:LB)(a:Int)(hl:S.l.length≤1099511627776):
  Calls prog 38 #[.pointer (some ⟨P,0,none⟩),vS nm,vI a] w fun e w'=>e = .returned (vI (S.find nm a).1)∧Stp w0 P A w (S.find nm a).2 A c w':=by
 obtain⟨R,hR⟩:∃ R,S.find nm a=R:=⟨_,rfl⟩
 obtain⟨v,S2⟩:=R;rw[hR];have HR:=Hz hR;clear hR;have H:=Hz h;have hP:=h.lt;obtain⟨l0,l1,l2,l3,z0,z1,z2,z3⟩:=h.cells;have c0:=(((Fr.refl [] w).alloc (.cells #[vS nm] 9)).alloc (.cells #[vI 0] 3)).cell (p:=⟨P,0,none⟩) hP (fun x=>by cases x);rw[l0] at c0;clear h l0 l1 l2 l3 z0 z1 z2 z3;refine(callsIn_wide (n:=3)).1 ?_;refine callsIn_of_wp_marks func38 rfl trivial ?_ rfl;simp only[ntmps38,List.size_toArray,Lc',Ln',Nat.reduceAdd,Nat.reduceSub,Array.replicate_succ,Array.replicate_zero,List.push_toArray,List.append_toArray,List.nil_append,Lp']
 gi_wp2_with (refine⟨trivial,?_⟩;gi_at_call 90;refine(callsIn_wide.2 (Uw _ _ _ _)).mono ?_;rintro e x1 ⟨rfl,rfl⟩)
 obtain⟨W0,hW0⟩:∃ W0,((w.alloc (.cells #[vS nm] 9)).alloc (.cells #[vI 0] 3)).alloc (.cells #[.slice A S.l.length c] 60)=W0:=⟨_,rfl⟩
 rw[hW0];have z0:W0.heap.size=w.heap.size+3:=by rw[← hW0];simp only[World.size_alloc]
 have bw:Below w.heap.size w W0:=by rw[← hW0];exact(((Below.refl _ w).alloc (Nr' _) _).alloc (by simp only[World.size_alloc];omega) _).alloc (by simp only[World.size_alloc];omega) _
 have b0:W0.heap[w.heap.size]?=some (.cells #[vS nm] 9 (0,0)):=by rw[← hW0];exact Ae (Ae (Ag w _) _) _
 have b1:W0.heap[w.heap.size+1]?=some (.cells #[vI 0] 3 (0,0)):=by
  rw[← hW0];refine Ae ?_ _;have:=Ag (w.alloc (.cells #[vS nm] 9)) (.cells #[vI 0] 3)
  rwa [World.size_alloc] at this
 have b2:W0.heap[w.heap.size+1+1]?=some (.cells #[.slice A S.l.length c] 60 (0,0)):=by
  rw[← hW0];have:=Ag ((w.alloc (.cells #[vS nm] 9)).alloc (.cells #[vI 0] 3)) (.cells #[.slice A S.l.length c] 60);simp only[World.size_alloc] at this;exact this
 clear c0
 have hrow:∀ (i:Nat) (x:Bnd),S.l[i]?=some x→∃ g,A=some ⟨g,0,none⟩∧g<W0.heap.size∧W0.cell? ⟨g,i * 2,none⟩=some (.string ⟨x.1.toArray⟩)∧W0.cell? ⟨g,i * 2+1,none⟩=some (vI x.2):=fun i x hx=>by
  obtain⟨g,e,hg,h1,h2⟩:=H.out.name hx;exact⟨g,e,oM,(World.cell?_of_block (bw.block g hg)).trans h1,(World.cell?_of_block (bw.block g hg)).trans h2⟩
 refine X9 (F:=Fence.wide) (n:=3) rfl dC (gf:=117) (lb:=#[.pointer (some ⟨w.heap.size+1+1,0,none⟩)]) rfl trivial (enters_of func117 kR rfl)
  (encs:=bndV) (S:=fun xs=>xs=Ku S.l) (Sp:=fun pre=>pre <+: Ku S.l) (N:=S.l.length) (Bs:=w.heap.size+1+1) oM
  (rev_in 2 dC (w.heap.size+1+1) W0.heap.size oM W0 S.l A c hl b2 hrow) (fun _=>rfl)
  (FndI nm w)
  (FndX nm w)
  (fun pre A B row hs hg hr=>⟨Io hs.1 hg (fun r e=>(hr r e).2),Io hs.2.1 hg (fun r e=>(hr r e).2),hs.2.2.1.grown hg hs.2.2.1.size (fun k e=>by have:=(hr k e).1;omega),hs.2.2.2⟩)
  (fun pre A v hs=>⟨(Bg oM).trans hs.1,(Bg oM).trans hs.2.1,hs.2.2.1.setCell (p:=⟨w.heap.size+1+1,0,none⟩) (by show w.heap.size≤w.heap.size+1+1;omega) _,hs.2.2.2⟩)
  (fun pre A B row hs hg hr=>by
   obtain⟨pre',x,e,h1,h2,h3,h4⟩:=hs
   exact⟨pre',x,e,h1,h2,Io h3 hg (fun r e=>(hr r e).2),h4.grown hg h4.size (fun k e=>by have:=(hr k e).1;omega)⟩)
  (fun pre A v hs=>by
   obtain⟨pre',x,e,h1,h2,h3,h4⟩:=hs
   exact⟨pre',x,e,h1,h2,(Bg oM).trans h3,h4.setCell (p:=⟨w.heap.size+1+1,0,none⟩) (by show w.heap.size≤w.heap.size+1+1;omega) _⟩)
  ⟨b0,b1,bw,fun _ h=>by cases h⟩
  (fun T x=>{ tmps:=#[.pointer (some ⟨P,0,none⟩),vS nm,vI a,undef,.pointer (some ⟨w.heap.size,0,none⟩),undef,.pointer (some ⟨w.heap.size+1,0,none⟩),undef,.pointer (some ⟨T,0,none⟩),.pointer (some ⟨P,0,none⟩),.pointer (some ⟨P,0,none⟩),.pointer (some ⟨P,0,none⟩),.slice A S.l.length c,.func (.func 117) #[] #[.pointer (some ⟨w.heap.size+1+1,0,none⟩)],vI x.1,.agg #[.string ⟨x.2.1.toArray⟩,vI x.2.2],undef,undef,undef,undef,undef,undef,undef,undef,undef],defers:=[] })
  (fun x => .cells #[.string ⟨x.2.1.toArray⟩,vI x.2.2] 149) ?assign ?body ?done ?stop
 case assign =>
  intro l x W K hK;unfold bndV
  gi_wp2
  exact hK
 case body =>
  rintro l pre x W T ⟨h0,h1,h2,h3⟩ hT _ _;have c0:W.cell? ⟨w.heap.size,0,none⟩=some (vS nm):=Ab h0 0;have f1:W.frozen? ⟨w.heap.size+1,0,none⟩=false:=Ap h1 0;have d1:W.cell? ⟨w.heap.size+1,0,none⟩=some (vI 0):=Ab h1 0;have t0:W.cell? ⟨T,0,none⟩=some (.string ⟨x.2.1.toArray⟩):=Ab hT 0;have t1:W.cell? ⟨T,1,none⟩=some (vI x.2.2):=Ab hT 1
  cases hx:(x.2.1==nm)with
  | true =>
   gi_wp2
   exact⟨KeepsOthers.setCell _ _ _,pre,x,rfl,h3,hx,Lg h1 _,h2.setCell (p:=⟨w.heap.size+1,0,none⟩) (by show w.heap.size≤w.heap.size+1;omega) _⟩
  | false =>
   gi_wp2
   refine⟨KeepsOthers.refl _,Below.refl _ _,h0,h1,h2,fun y hy=>?_⟩;rcases List.mem_append.1 hy with hy|hy
   ·exact h3 y hy
   ·rw[List.mem_singleton.1 hy];exact hx
 case done =>
  rintro D xs W hD rfl ⟨h0,h1,h2,h3⟩ hK
  have hr:Jo nm S.l=none:=by
   rw[Rn,List.find?_eq_none.2 (fun y hy=>by simp[h3 y hy])];rfl
  have hS:S.find nm a=(0,S.fail 23 a):=by unfold Sc.find;rw[hr]
  have hS2:=hS.symm.trans HR.out;obtain⟨rfl,rfl⟩:=Prod.mk.inj hS2;clear hS hS2 HR;have hW:=H.out.fr0 (Fr.of_below h2)
  have hn:∀ k,w.heap.size≤k→k ∉ scL P A:=fun k hk hm=>by
   rcases Ay.1 hm with e|⟨a,e,e2⟩
   ·omega
   ·have:=H.out.own_lt a e;omega
  have hDs:=Aa hK;have HN:=Hz (hn D oM)
  gi_wp2_with (refine⟨trivial,?_⟩;gi_at_call 91;refine(callsIn_wide.2 (Qu hW 23 a)).mono ?_;rintro e x1 ⟨rfl,hs⟩;have hx1:=hs.2.1.keep h1 (hn _ oM);have f1:x1.frozen? ⟨w.heap.size+1,0,none⟩=false:=Ap hx1 0;have d1:x1.cell? ⟨w.heap.size+1,0,none⟩=some (vI 0):=Ab hx1 0)
  have hK1:=hs.2.1.keep hK HN.out;have hK':=(KeepsOthers.setCell x1 ⟨w.heap.size+1,0,none⟩ (vI 0)).same D _ hK1 rfl;refine⟨sM,.inl ⟨_,_,rfl,run_takeDeferred hK',?_⟩⟩;have hc5:=cell_kept (World.cell?_setCell_same' x1 ⟨w.heap.size+1,0,none⟩ (vI 0) (by rw[d1];rfl)) (grownBy_putObj' _ D (.deferred none)) (fun r e=>by cases e;exact⟨_,hK',rfl⟩);refine⟨vI 0,?_,rfl,?_⟩
  ·simp[results,Tryz.f38,go_sem,hc5]
  ·have f5:Fr [w.heap.size+1,D] x1 ((x1.setCell ⟨w.heap.size+1,0,none⟩ (vI 0)).putObj D (.deferred none)):=((Fr.refl _ x1).setCell (p:=⟨w.heap.size+1,0,none⟩) (.inl sM) _).grown (grownBy_putObj' _ D (.deferred none)) (fun k e=>by cases e;exact .inl sM);have hle:=H.out.le
   have hL:∀ x ∈ [w.heap.size+1,D],w.heap.size≤x:=fun x hx=>by
    simp only[List.mem_cons,List.not_mem_nil,or_false] at hx;rcases hx with rfl|rfl <;> omega
   refine⟨hs.1.frL f5 (fun hx=>?_) (fun a e hx=>?_) (fun x hx=>Nat.le_trans hle (hL x hx)),(((Fr.of_below h2).mono (fun x hx=>by cases hx)).trans hs.2.1).step f5 (fun x hx => .inr (hL x hx)),fun a e => .inl e⟩
   ·have:=hL _ hx;omega
   ·have:=hL _ hx;have:=H.out.own_lt a e;omega
 case stop =>
  rintro D pre W hD hp ⟨pre',x,rfl,h1,h2,h3,h4⟩ hK
  have hr:Jo nm S.l=some x.2.2:=by
   rw[Rn,Zk hp h1 h2];rfl
  have hS:S.find nm a=(x.2.2,S):=by unfold Sc.find;rw[hr]
  have hS2:=hS.symm.trans HR.out;obtain⟨rfl,rfl⟩:=Prod.mk.inj hS2;clear hS hS2 HR;have d1:W.cell? ⟨w.heap.size+1,0,none⟩=some (vI x.2.2):=Ab h3 0
  gi_wp2
  refine⟨sM,.inl ⟨_,_,rfl,run_takeDeferred hK,?_⟩⟩;have hc5:=cell_kept d1 (grownBy_putObj' _ D (.deferred none)) (fun r e=>by cases e;exact⟨_,hK,rfl⟩);refine⟨vI x.2.2,?_,rfl,?_⟩
  ·simp[results,Tryz.f38,go_sem,hc5]
  ·exact(Stp.refl H.out).fr0 (Fr.of_below (h4.grown (grownBy_putObj' _ D (.deferred none)) h4.size (fun k e=>by cases e;omega)))
end
section
attribute [local go_sem ↓] Go.wp_at_zero Go.wp_at_succ
def BndsO(A:Option Addr)(o:Nat)(l:List Bnd)(w:World):Prop:=∀ (i:Nat)(x:Bnd),l[i]?=some x→∃ g,A=some ⟨g,o,none⟩∧g<w.heap.size∧w.cell? ⟨g,o+i * 2,none⟩=some (.string ⟨x.1.toArray⟩)∧w.cell? ⟨g,o+i * 2+1,none⟩=some (vI x.2)
theorem same_any(B:Nat)(nm x:LB)(v:Int)(w:World)(hB:w.cell? ⟨B,2,none⟩=some (vS nm))(hlt:B<w.heap.size):
  Calls prog 120 #[.agg #[vS x,vI v],.pointer (some ⟨B,0,none⟩)] w fun e w'=>e = .returned (.bool (x==nm))∧Fr [] w w':=by
 have f0:=Hz ((Fr.refl [] w).alloc (.cells #[vS x,vI v] 149));have n0:¬ w.heap.size=B:=by omega
 have n1:¬ B=w.heap.size:=by omega
 go_enter func120,ntmps120;go_wp2_with fail;go_ret;exact⟨by first|rfl|simp,f0.out⟩
theorem Y5(A:Option Addr)(o c:Nat)(l:List Bnd)(B:Nat)(nm:LB)(hl:l.length≤1099511627776)(w:World)(h:BndsO A o l w)(hB:w.cell? ⟨B,2,none⟩=some (vS nm))(hlt:B<w.heap.size):
  Calls prog 145 #[.slice A l.length c,.func (.func 120) #[] #[.pointer (some ⟨B,0,none⟩)]] w fun e w'=>∃ n:Int,e = .returned (vI n)∧decide (0≤n)=l.any (fun b=>b.1==nm)∧Fr [] w w':=by
 have HC:=Hz h;have HB:=Hz hB;have HLT:=Hz hlt;have HN:Hid ((l.take 0).any (fun b=>b.1==nm)=false):=Hz sM
 obtain⟨R,hR⟩:∃ R,l.any (fun b=>b.1==nm)=R:=⟨_,rfl⟩
 rw[hR];have HR:=Hz hR;clear h hB hlt hR;go_enter func145,ntmps145;go_wp2_with fail
 go_loopw [8] (fun iv wr=>∃ i:Nat,iv=vI i∧i≤l.length∧Hid ((l.take i).any (fun b=>b.1==nm)=false)∧Hid (Fr [] w wr)) (fun iv wr=>l.length-(intOf iv).toNat)
 case atStart=>exact⟨0,rfl,oM,HN,Hz (Fr.refl _ _)⟩
 case round =>
  obtain⟨i,rfl,hi,HK,HF⟩:=hrel;clear HN;have q1:(0:Int)≤(i:Int):=by omega
  by_cases hlt:i<l.length
  ·obtain⟨y,hy⟩:∃ y,l[i]?=some y:=⟨l[i],Lg' hlt⟩
   have q2:(i:Int)<(l.length:Int):=by omega
   obtain⟨g,rfl,hg,h1,h2⟩:=HC.out i y hy;have x0:wr.cell? ⟨g,o+i * 2,none⟩=some (.string ⟨y.1.toArray⟩):=(HF.out.cell (p:=⟨g,o+i * 2,none⟩) hg (fun x=>by cases x)).trans h1;have x1:wr.cell? ⟨g,o+i * 2+1,none⟩=some (vI y.2):=(HF.out.cell (p:=⟨g,o+i * 2+1,none⟩) hg (fun x=>by cases x)).trans h2;have cS:=Hz (same_any B nm y.1 y.2 wr ((HF.out.cell (p:=⟨B,2,none⟩) HLT.out (fun x=>by cases x)).trans HB.out) (Nl' HLT.out HF.out.size));have HY:=Hz hy;obtain⟨yn,yv⟩:=y;dsimp only at x0 x1 cS;clear h1 h2 hy;go_wp2_with fail;refine cS.out.mono ?_;rintro e w2 ⟨rfl,f2⟩;have HF2:=Hz (HF.out.trans f2)
   cases hq:(yn==nm)with
   | true =>
    have hR:R=true:=by
     rw[← HR.out,List.any_eq_true];exact⟨(yn,yv),List.mem_of_getElem? HY.out,hq⟩
    subst hR;go_wp2_with fail;go_ret
    exact⟨i,rfl,sM,HF2.out⟩
   | false =>
    have HK2:Hid ((l.take (i+1)).any (fun b=>b.1==nm)=false):=Hz (by rw[List.take_add_one,HY.out,List.any_append,HK.out];simp[hq]);go_wp2_with fail
    go_roundw
    case rel=>exact⟨i+1,by go_num,oM,HK2,HF2⟩
    case measure=>simp[intOf];omega
  ·have q2:¬ (i:Int)<(l.length:Int):=by omega
   have hR:R=false:=by rw[← HR.out,← HK.out,List.take_of_length_le oM]
   subst hR;go_wp2_with fail;go_ret;exact⟨-1,rfl,dC,HF.out⟩
theorem Ex(A:Option Addr)(o c:Nat)(l:List Bnd)(B:Nat)(nm:LB)(hl:l.length≤1099511627776)(w:World)(h:BndsO A o l w)(hB:w.cell? ⟨B,2,none⟩=some (vS nm))(hlt:B<w.heap.size):
  Calls prog 119 #[.slice A l.length c,.func (.func 120) #[] #[.pointer (some ⟨B,0,none⟩)]] w fun e w'=>e = .returned (.bool (l.any (fun b=>b.1==nm)))∧Fr [] w w':=by
 have cc:=Hz (Y5 A o c l B nm hl w h hB hlt)
 generalize l.any (fun b=>b.1==nm)=R at *
 clear h hB;go_enter func119,ntmps119;go_wp2_with fail;refine cc.out.mono ?_;rintro e w1 ⟨n,rfl,hn,hf⟩;go_wp2_with fail;go_ret;exact⟨by simp[← hn],hf⟩
end
end Go.Proofs.YtlafbbnikgcdlaaGreatDoor
