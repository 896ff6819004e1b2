/- A part of the proof: Mk1, Mk3, Mk, Pz, We, Fwr, Fs, Fu, Wf, Ft, Fv, Od. -/
import Derived.Deep.DrawnRows
import Derived.Test.YtlafbbnikgcdlaaGreatDoorCards
import Derived.Test.YtlafbbnikgcdlaaGreatDoorTie
import Derived.SizedLaws
import Derived.Shelf.Vars
import Derived.WalkKit
import Derived.ProofKit
import Derived.OpenShut
import Derived.LaidMore
import Derived.Carry
import Derived.Deep.DeepHandedRow
import Derived.Deep.DeepWitnessRowRef
import Derived.Lib.LaidTab
import Derived.Lib.LaidU8
import Derived.Stop.LaidErr
import Derived.Test.YtlafbbnikgcdlaaGreatDoorKb15
import Derived.Test.YtlafbbnikgcdlaaGreatDoorKb16
namespace Go.Proofs.YtlafbbnikgcdlaaGreatDoor
open Go.RowKit
open _root_.Go.Proofs.Tryz
set_option linter.all false
set_option maxHeartbeats 16000000
set_option maxRecDepth 100000
variable{p:Prop}
open List renaming length_cons→Lc',length_append→La',getElem?_eq_getElem→Lg',cons_append→Lp',append_assoc→Ls'
open Nat renaming lt_of_lt_of_le→Nl',le_refl→Nr'
section
attribute [local go_sem ↓] Go.wp_at_zero Go.wp_at_succ
theorem nn25(h:p:=by
 have kqq227:=@Hz _ @nn425;exact qq227):p:=h
theorem nn408(h:p:=by
 have HG:=Hz (Dm g0 (vI 3) (vI a) (vE) (vI 0) (vE) (vZ) (vZ));have HF:=Hz (F.step (Ce y3 B (vI 3) (vI a) (vE) (vI 0) (vE) (vZ) (vZ)) (fun x hx => .inr (by simp at hx;omega)));have HP:=Hz (h0.frL (Ce y3 B (vI 3) (vI a) (vE) (vI 0) (vE) (vZ) (vZ)) sO sO);unfold st7 at HG HF HP;go_wp2_with fail;generalize ((((((y3.setCell ⟨B,0,none⟩ (vI 3)).setCell ⟨B,1,none⟩ (vI a)).setCell ⟨B,2,none⟩ (vE)).setCell ⟨B,3,none⟩ (vI 0)).setCell ⟨B,4,none⟩ (vE)).setCell ⟨B,5,none⟩ (vZ)).setCell ⟨B,6,none⟩ (vZ)=Z at HG HF HP  ⊢;obtain⟨⟨d0,d1,d2,d3,d4,d5,d6⟩,_⟩:=Ao HG.out;have hxx:=Bw.of_rows (w:=Z) (ok:=fun b=>B≤b) (k:=3) (a:=a) (nm:=[]) (n:=0) (s:=[]) (c5:=fun _=>[]) An.nil_ (c6:=fun _=>[]) An.nil_;refine bodyPost_ret (v:=.agg #[vI 3,vI a,vE,vI 0,vE,vZ,vZ]) ?_ rfl ?_
 ·exact qq121
 ·exact⟨_,_,_,_,_,_,_,_,_,_,_,_,_,_,rfl,hxx.keep (Sh.of_fr (Fr.refl [] Z) (fun b hb hlt=>⟨oM,fun x=>by cases x⟩)),by unfold Dd;exact .may_yes HT.out HB0.out (.thn (.look HU.out (by rw[if_neg HK.out];exact .fail .retP))),HP.out,HF.out⟩):p:=h
theorem nn425(h:p:=by
 have hk4:(u.k != 4)=true:=bne_iff_ne.2 HK.out;have kqq345:=@Hz _ @nn660;exact qq345):p:=h
theorem nn660(h:p:=by
 go_wp2_with fail;clear r0 hk4;refine(Ky P g c ts ⟨st.i+1,st.ok⟩ y2 h0).mono ?_;have kqq212:=@Hz _ @nn408;exact qq212):p:=h
theorem Qh(ts:List Tok)(hE:Cx ts)(N:Nat)(ihP:GP ts N 2 .pat 108)(P g c:Nat)(st:St)(a:Int)(w:World)(h:PSt P g c ts st w)(hm:16 *(ts.length-st.i)<N+1)(t:Tok)(ht:ts[st.i]?=some t)(hb0:isB t st.ok [[45]]=true)(u:Tok)(hu:ts[st.i+1]?=some u)(hk:u.k≠4):Calls prog 160 #[.pointer (some ⟨P,0,none⟩),.agg #[vI 0,vI a,vE,vI 0,vE,vZ,vZ]] w (Tc P g c ts st (Dd (.marked (.mk 0 a [] 0 [] [] []))) w):=by
 have HU:=Hz hu;have HK:=Hz hk;clear hu hk;have HB0:=Hz hb0;clear hb0;have kqq11:=@Hz _ @nn25;exact qq11
theorem nn24(h:p:=by
 have kqq227:=@Hz _ @nn426;exact qq227):p:=h
theorem nn263(h:p:=by
 have fs:=((Fr.refl [T] y3).setCell (p:=⟨T,3,none⟩) (.inl sM) (vI (wrap64 (-u.n))))
 have kqq349:=@Hz _ @nn676;exact qq349):p:=h
theorem nn426(h:p:=by
 have hk4:(u.k != 4)=false:=by rw[bne_eq_false_iff_eq];exact HK.out
 have kqq345:=@Hz _ @nn659;exact qq345):p:=h
theorem nn659(h:p:=by
 have r3:=tok_f3;have hok1:st.ok=true:=(Jg HB0.out).1;have HOK:=Hz hok1;clear hok1;go_wp2_with fail;clear r0 hk4;refine(Et P g c ts ⟨st.i+1,st.ok⟩ u HU.out HOK.out (by rw[HK.out];decide) y2 h0 HE.out).mono ?_;rintro e y3 ⟨rfl,h0,fm⟩;have kqq95:=@Hz _ @nn263;exact qq95):p:=h
theorem nn676(h:p:=by
 have HG:=Hz (Dm g0 (vI 3) (vI a) (vE) (vI (wrap64 (-u.n))) (vE) (vZ) (vZ));have HF:=Hz (F.step (Ce (y3.setCell ⟨T,3,none⟩ (vI (wrap64 (-u.n)))) B (vI 3) (vI a) (vE) (vI (wrap64 (-u.n))) (vE) (vZ) (vZ)) (fun x hx => .inr (by simp at hx;omega)));have HP:=Hz (h0.frL (Ce (y3.setCell ⟨T,3,none⟩ (vI (wrap64 (-u.n)))) B (vI 3) (vI a) (vE) (vI (wrap64 (-u.n))) (vE) (vZ) (vZ)) sO sO);unfold st7 at HG HF HP;go_wp2_with fail;generalize (((((((y3.setCell ⟨T,3,none⟩ (vI (wrap64 (-u.n)))).setCell ⟨B,0,none⟩ (vI 3)).setCell ⟨B,1,none⟩ (vI a)).setCell ⟨B,2,none⟩ (vE)).setCell ⟨B,3,none⟩ (vI (wrap64 (-u.n)))).setCell ⟨B,4,none⟩ (vE)).setCell ⟨B,5,none⟩ (vZ)).setCell ⟨B,6,none⟩ (vZ)=Z at HG HF HP  ⊢;obtain⟨⟨d0,d1,d2,d3,d4,d5,d6⟩,_⟩:=Ao HG.out;have hxx:=Bw.of_rows (w:=Z) (ok:=fun b=>B≤b) (k:=3) (a:=a) (nm:=[]) (n:=wrap64 (-u.n)) (s:=[]) (c5:=fun _=>[]) An.nil_ (c6:=fun _=>[]) An.nil_;refine bodyPost_ret (v:=.agg #[vI 3,vI a,vE,vI (wrap64 (-u.n)),vE,vZ,vZ]) ?_ rfl ?_
 ·exact qq121
 ·exact⟨_,_,_,_,_,_,_,_,_,_,_,_,_,_,rfl,hxx.keep (Sh.of_fr (Fr.refl [] Z) (fun b hb hlt=>⟨oM,fun x=>by cases x⟩)),by unfold Dd;exact .may_yes HT.out HB0.out (.thn (.look HU.out (by rw[if_pos HK.out,if_pos HOK.out];exact .adv .retP))),HP.out,HF.out⟩):p:=h
theorem Vh(ts:List Tok)(hE:Cx ts)(N:Nat)(ihP:GP ts N 2 .pat 108)(P g c:Nat)(st:St)(a:Int)(w:World)(h:PSt P g c ts st w)(hm:16 *(ts.length-st.i)<N+1)(t:Tok)(ht:ts[st.i]?=some t)(hb0:isB t st.ok [[45]]=true)(u:Tok)(hu:ts[st.i+1]?=some u)(hk:u.k=4):Calls prog 160 #[.pointer (some ⟨P,0,none⟩),.agg #[vI 0,vI a,vE,vI 0,vE,vZ,vZ]] w (Tc P g c ts st (Dd (.marked (.mk 0 a [] 0 [] [] []))) w):=by
 have HU:=Hz hu;have HK:=Hz hk;clear hu hk;have HB0:=Hz hb0;clear hb0;have kqq11:=@Hz _ @nn24;exact qq11
theorem nn23(h:p:=by
 refine(may_no [45] P g c ts st t HT.out HB0.out w1 h0 HE.out).mono ?_;rintro e x0 ⟨rfl,fm⟩;have kqq322:=@Hz _ @nn596;exact qq322):p:=h
theorem nn264(h:p:=by
 have fs:=(((Fr.refl [T] y1).setCell (p:=⟨T,0,none⟩) (.inl sM) (vI 5)).setCell (p:=⟨T,3,none⟩) (.inl sM) (vI 1))
 have kqq349:=@Hz _ @nn675;exact qq349):p:=h
theorem nn596(h:p:=by
 refine(may_yes [116,114,117,101] P g c ts st t HT.out HB1.out x0 h0 HE.out).mono ?_;rintro e y1 ⟨rfl,h0,fm⟩;have kqq95:=@Hz _ @nn264;exact qq95):p:=h
theorem nn675(h:p:=by
 have HG:=Hz (Dm g0 (vI 5) (vI a) (vE) (vI 1) (vE) (vZ) (vZ));have HF:=Hz (F.step (Ce ((y1.setCell ⟨T,0,none⟩ (vI 5)).setCell ⟨T,3,none⟩ (vI 1)) B (vI 5) (vI a) (vE) (vI 1) (vE) (vZ) (vZ)) (fun x hx => .inr (by simp at hx;omega)));have HP:=Hz (h0.frL (Ce ((y1.setCell ⟨T,0,none⟩ (vI 5)).setCell ⟨T,3,none⟩ (vI 1)) B (vI 5) (vI a) (vE) (vI 1) (vE) (vZ) (vZ)) sO sO);unfold st7 at HG HF HP;go_wp2_with fail;generalize ((((((((y1.setCell ⟨T,0,none⟩ (vI 5)).setCell ⟨T,3,none⟩ (vI 1)).setCell ⟨B,0,none⟩ (vI 5)).setCell ⟨B,1,none⟩ (vI a)).setCell ⟨B,2,none⟩ (vE)).setCell ⟨B,3,none⟩ (vI 1)).setCell ⟨B,4,none⟩ (vE)).setCell ⟨B,5,none⟩ (vZ)).setCell ⟨B,6,none⟩ (vZ)=Z at HG HF HP  ⊢;obtain⟨⟨d0,d1,d2,d3,d4,d5,d6⟩,_⟩:=Ao HG.out;have hxx:=Bw.of_rows (w:=Z) (ok:=fun b=>B≤b) (k:=5) (a:=a) (nm:=[]) (n:=1) (s:=[]) (c5:=fun _=>[]) An.nil_ (c6:=fun _=>[]) An.nil_;refine bodyPost_ret (v:=.agg #[vI 5,vI a,vE,vI 1,vE,vZ,vZ]) ?_ rfl ?_
 ·exact qq121
 ·exact⟨_,_,_,_,_,_,_,_,_,_,_,_,_,_,rfl,hxx.keep (Sh.of_fr (Fr.refl [] Z) (fun b hb hlt=>⟨oM,fun x=>by cases x⟩)),by unfold Dd;exact .may_no HT.out HB0.out (.els (.may_yes HT.out HB1.out (.thn (.retP)))),HP.out,HF.out⟩):p:=h
theorem Xq(ts:List Tok)(hE:Cx ts)(N:Nat)(ihP:GP ts N 2 .pat 108)(P g c:Nat)(st:St)(a:Int)(w:World)(h:PSt P g c ts st w)(hm:16 *(ts.length-st.i)<N+1)(t:Tok)(ht:ts[st.i]?=some t)(hb0:isB t st.ok [[45]]=false)(hb1:isB t st.ok [[116,114,117,101]]=true):Calls prog 160 #[.pointer (some ⟨P,0,none⟩),.agg #[vI 0,vI a,vE,vI 0,vE,vZ,vZ]] w (Tc P g c ts st (Dd (.marked (.mk 0 a [] 0 [] [] []))) w):=by
 have HB0:=Hz hb0;clear hb0;have HB1:=Hz hb1;clear hb1;have kqq11:=@Hz _ @nn23;exact qq11
theorem nn22(h:p:=by
 have kqq241:=@Hz _ @nn472;exact qq241):p:=h
theorem nn265(h:p:=by
 have fs:=((Fr.refl [T] y1).setCell (p:=⟨T,0,none⟩) (.inl sM) (vI 5))
 have kqq349:=@Hz _ @nn674;exact qq349):p:=h
theorem nn472(h:p:=by
 refine(may_yes [102,97,108,115,101] P g c ts st t HT.out HB2.out x1 h0 HE.out).mono ?_;rintro e y1 ⟨rfl,h0,fm⟩;have kqq95:=@Hz _ @nn265;exact qq95):p:=h
theorem nn674(h:p:=by
 have HG:=Hz (Dm g0 (vI 5) (vI a) (vE) (vI 0) (vE) (vZ) (vZ));have HF:=Hz (F.step (Ce (y1.setCell ⟨T,0,none⟩ (vI 5)) B (vI 5) (vI a) (vE) (vI 0) (vE) (vZ) (vZ)) (fun x hx => .inr (by simp at hx;omega)));have HP:=Hz (h0.frL (Ce (y1.setCell ⟨T,0,none⟩ (vI 5)) B (vI 5) (vI a) (vE) (vI 0) (vE) (vZ) (vZ)) sO sO);unfold st7 at HG HF HP;go_wp2_with fail;generalize (((((((y1.setCell ⟨T,0,none⟩ (vI 5)).setCell ⟨B,0,none⟩ (vI 5)).setCell ⟨B,1,none⟩ (vI a)).setCell ⟨B,2,none⟩ (vE)).setCell ⟨B,3,none⟩ (vI 0)).setCell ⟨B,4,none⟩ (vE)).setCell ⟨B,5,none⟩ (vZ)).setCell ⟨B,6,none⟩ (vZ)=Z at HG HF HP  ⊢;obtain⟨⟨d0,d1,d2,d3,d4,d5,d6⟩,_⟩:=Ao HG.out;have hxx:=Bw.of_rows (w:=Z) (ok:=fun b=>B≤b) (k:=5) (a:=a) (nm:=[]) (n:=0) (s:=[]) (c5:=fun _=>[]) An.nil_ (c6:=fun _=>[]) An.nil_;refine bodyPost_ret (v:=.agg #[vI 5,vI a,vE,vI 0,vE,vZ,vZ]) ?_ rfl ?_
 ·exact qq121
 ·exact⟨_,_,_,_,_,_,_,_,_,_,_,_,_,_,rfl,hxx.keep (Sh.of_fr (Fr.refl [] Z) (fun b hb hlt=>⟨oM,fun x=>by cases x⟩)),by unfold Dd;exact .may_no HT.out HB0.out (.els (.may_no HT.out HB1.out (.els (.may_yes HT.out HB2.out (.thn (.retP)))))),HP.out,HF.out⟩):p:=h
theorem Vg(ts:List Tok)(hE:Cx ts)(N:Nat)(ihP:GP ts N 2 .pat 108)(P g c:Nat)(st:St)(a:Int)(w:World)(h:PSt P g c ts st w)(hm:16 *(ts.length-st.i)<N+1)(t:Tok)(ht:ts[st.i]?=some t)(hb0:isB t st.ok [[45]]=false)(hb1:isB t st.ok [[116,114,117,101]]=false)(hb2:isB t st.ok [[102,97,108,115,101]]=true):Calls prog 160 #[.pointer (some ⟨P,0,none⟩),.agg #[vI 0,vI a,vE,vI 0,vE,vZ,vZ]] w (Tc P g c ts st (Dd (.marked (.mk 0 a [] 0 [] [] []))) w):=by
 have HB0:=Hz hb0;clear hb0;have HB1:=Hz hb1;clear hb1;have HB2:=Hz hb2;clear hb2;have kqq11:=@Hz _ @nn22;exact qq11
theorem nn21(h:p:=by
 have kqq45:=@Hz _ @nn144;exact qq45):p:=h
theorem nn144(h:p:=by
 have kqq301:=@Hz _ @nn564;exact qq301):p:=h
theorem nn351(h:p:=by
 have kqq11:=@Hz _ @nn21;exact qq11):p:=h
theorem nn407(h:p:=by
 have HG:=Hz (Dm g0 (vI 0) (vI a) (vE) (vI 0) (vE) (vZ) (vZ));have HF:=Hz (F.step (Ce y3 B (vI 0) (vI a) (vE) (vI 0) (vE) (vZ) (vZ)) (fun x hx => .inr (by simp at hx;omega)));have HP:=Hz (h0.frL (Ce y3 B (vI 0) (vI a) (vE) (vI 0) (vE) (vZ) (vZ)) sO sO);unfold st7 at HG HF HP;go_wp2_with fail;generalize ((((((y3.setCell ⟨B,0,none⟩ (vI 0)).setCell ⟨B,1,none⟩ (vI a)).setCell ⟨B,2,none⟩ (vE)).setCell ⟨B,3,none⟩ (vI 0)).setCell ⟨B,4,none⟩ (vE)).setCell ⟨B,5,none⟩ (vZ)).setCell ⟨B,6,none⟩ (vZ)=Z at HG HF HP  ⊢;obtain⟨⟨d0,d1,d2,d3,d4,d5,d6⟩,_⟩:=Ao HG.out;have hxx:=Bw.of_rows (w:=Z) (ok:=fun b=>B≤b) (k:=0) (a:=a) (nm:=[]) (n:=0) (s:=[]) (c5:=fun _=>[]) An.nil_ (c6:=fun _=>[]) An.nil_;refine bodyPost_ret (v:=.agg #[vI 0,vI a,vE,vI 0,vE,vZ,vZ]) ?_ rfl ?_
 ·exact qq121
 ·exact⟨_,_,_,_,_,_,_,_,_,_,_,_,_,_,rfl,hxx.keep (Sh.of_fr (Fr.refl [] Z) (fun b hb hlt=>⟨oM,fun x=>by cases x⟩)),by unfold Dd;exact .may_no HT.out HB0.out (.els (.may_no HT.out HB1.out (.els (.may_no HT.out HB2.out (.els (.may_no HT.out HB3.out (.els (.may_no HT.out HB4.out (.els (.fail .retP)))))))))),HP.out,HF.out⟩):p:=h
theorem nn564(h:p:=by
 refine(may_no [123] P g c ts st t HT.out HB4.out x3 h0 HE.out).mono ?_;rintro e x4 ⟨rfl,fm⟩;have kqq322:=@Hz _ @nn590;exact qq322):p:=h
theorem nn590(h:p:=by
 refine(Ky P g c ts st x4 h0).mono ?_;have kqq212:=@Hz _ @nn407;exact qq212):p:=h
theorem Xo(ts:List Tok)(hE:Cx ts)(N:Nat)(ihP:GP ts N 2 .pat 108)(P g c:Nat)(st:St)(a:Int)(w:World)(h:PSt P g c ts st w)(hm:16 *(ts.length-st.i)<N+1)(t:Tok)(ht:ts[st.i]?=some t)(hb0:isB t st.ok [[45]]=false)(hb1:isB t st.ok [[116,114,117,101]]=false)(hb2:isB t st.ok [[102,97,108,115,101]]=false)(hb3:isB t st.ok [[40]]=false)(hb4:isB t st.ok [[123]]=false):Calls prog 160 #[.pointer (some ⟨P,0,none⟩),.agg #[vI 0,vI a,vE,vI 0,vE,vZ,vZ]] w (Tc P g c ts st (Dd (.marked (.mk 0 a [] 0 [] [] []))) w):=by
 have kqq145:=@Hz _ @nn351;exact qq145
def LKp(a:Int)(ls:List LB)(args:List Al):Cmd:=.look fun _ ok=>if ok=true then .callP (.recL a ls args) .retP else Ch [125] (.retP (.mk 9 a [] 0 [] ls args))
def ENDp(a:Int)(ls:List LB)(args:List Al):Cmd:=Ch [125] (.retP (.mk 9 a [] 0 [] ls args))
theorem LKp_no{ts:List Tok}{a:Int}{ls:List LB}{args:List Al}{st st':St}{r:Rs}{t:Tok}(ht:ts[st.i]?=some t)(hok:st.ok=false)(h:Run ts (ENDp a ls args) st r st'):Run ts (LKp a ls args) st r st' :=
 .look ht (by rw[hok,if_neg dC];exact h)
theorem Sf{ts:List Tok}{a:Int}{ls:List LB}{args:List Al}{st0 st3:St}{y:Al}{u u1 v:Tok}(hu:ts[st0.i]?=some u)(hok:st0.ok=true)(hu1:ts[(El u st0).i]?=some u1)
  (hs:Run ts (Dd .pat) (Cf u1 (El u st0) [61]) (.p y) st3) (hv:ts[st3.i]?=some v) {b:Bool} (hb:isB v st3.ok [[44]]=b) {z:Al} {st':St}
  (h:Run ts (if b=true then LKp a (ls++[Be u st0]) (args++[y])else ENDp a (ls++[Be u st0]) (args++[y])) (if b=true then ⟨st3.i+1,st3.ok⟩else st3) (.p z) st'):Run ts (LKp a ls args) st0 (.p z) st':=by
 refine .look hu ?_;rw[hok,if_pos rfl];unfold El at hu1 hs;refine .callP ?_ .retP;unfold Dd;refine .name_ hu (.must_ hu1 (.callP hs ?_));exact qq93
theorem nn19(h:p:=by
 have kqq45:=@Hz _ @nn146;exact qq45):p:=h
theorem nn146(h:p:=by
 have kqq87:=@Hz _ @nn246;exact qq87):p:=h
theorem nn246(h:p:=by
 refine(may_yes [125] P g c ts ⟨st.i+1,st.ok⟩ u HU.out HB.out y1n h0 HE.out).mono ?_;rintro e y2 ⟨rfl,h0,fm⟩;have g0:=fm.keep g0 sO;have q0:=fm.keep q0 sO;have F:=F.trans fm;clear fm;have kqq252:=@Hz _ @nn503;exact qq252):p:=h
theorem nn350(h:p:=by
 have kqq11:=@Hz _ @nn19;exact qq11):p:=h
theorem nn503(h:p:=by
 have HG:=Hz (Dm g0 (vI 9) (vI a) (vE) (vI 0) (vE) (vZ) (vZ));have HF:=Hz (F.step (Ce y2 B (vI 9) (vI a) (vE) (vI 0) (vE) (vZ) (vZ)) (fun x hx => .inr (by simp at hx;omega)));have HP:=Hz (h0.frL (Ce y2 B (vI 9) (vI a) (vE) (vI 0) (vE) (vZ) (vZ)) sO sO);unfold st7 at HG HF HP;go_wp2_with fail;generalize ((((((y2.setCell ⟨B,0,none⟩ (vI 9)).setCell ⟨B,1,none⟩ (vI a)).setCell ⟨B,2,none⟩ (vE)).setCell ⟨B,3,none⟩ (vI 0)).setCell ⟨B,4,none⟩ (vE)).setCell ⟨B,5,none⟩ (vZ)).setCell ⟨B,6,none⟩ (vZ)=Z at HG HF HP  ⊢;obtain⟨⟨d0,d1,d2,d3,d4,d5,d6⟩,_⟩:=Ao HG.out;have hxx:=Bw.of_rows (w:=Z) (ok:=fun b=>B≤b) (k:=9) (a:=a) (nm:=[]) (n:=0) (s:=[]) (c5:=fun _=>[]) An.nil_ (c6:=fun _=>[]) An.nil_;refine bodyPost_ret (v:=.agg #[vI 9,vI a,vE,vI 0,vE,vZ,vZ]) ?_ rfl ?_
 ·exact qq121
 ·exact⟨_,_,_,_,_,_,_,_,_,_,_,_,_,_,rfl,hxx.keep (Sh.of_fr (Fr.refl [] Z) (fun b hb hlt=>⟨oM,fun x=>by cases x⟩)),by unfold Dd;exact .may_no HT.out HB0.out (.els (.may_no HT.out HB1.out (.els (.may_no HT.out HB2.out (.els (.may_no HT.out HB3.out (.els (.may_yes HT.out HB4.out (.thn (.may_yes HU.out HB.out (.thn .retP))))))))))),HP.out,HF.out⟩):p:=h
theorem Vf(ts:List Tok)(hE:Cx ts)(N:Nat)(ihP:GP ts N 2 .pat 108)(P g c:Nat)(st:St)(a:Int)(w:World)(h:PSt P g c ts st w)(hm:16 *(ts.length-st.i)<N+1)(t:Tok)(ht:ts[st.i]?=some t)(hb0:isB t st.ok [[45]]=false)(hb1:isB t st.ok [[116,114,117,101]]=false)(hb2:isB t st.ok [[102,97,108,115,101]]=false)(hb3:isB t st.ok [[40]]=false)(hb4:isB t st.ok [[123]]=true)(u:Tok)(hu:ts[st.i+1]?=some u)(hb:isB u st.ok [[125]]=true):Calls prog 160 #[.pointer (some ⟨P,0,none⟩),.agg #[vI 0,vI a,vE,vI 0,vE,vZ,vZ]] w (Tc P g c ts st (Dd (.marked (.mk 0 a [] 0 [] [] []))) w):=by
 have HU:=Hz hu;clear hu;have HB:=Hz hb;clear hb;have kqq145:=@Hz _ @nn350;exact qq145
theorem nn18(h:p:=by
 have kqq45:=@Hz _ @nn147;exact qq45):p:=h
theorem nn113(h:p:=by
 refine bodyPost_ret (v:=.agg #[vI 9,vI a,vE,vI 0,vE,.slice A5 n5 cc5,.slice A6 n6 cc6]) ?_ rfl ?_
 ·exact qq121
 ·exact⟨_,_,_,_,_,_,_,_,_,_,_,_,_,_,rfl,hxx.keep (Sh.of_fr (Fr.refl [] Z) (fun b hb hlt=>⟨oM,fun x=>by cases x⟩)),HR.out _ _ (by(first|rw[if_pos rfl] | rw[if_pos trivial]);exact LKp_no hu HOK.out (.must_ hu .retP)),HP.out,HF.out⟩):p:=h
theorem nn114(h:p:=by
 refine bodyPost_ret (v:=.agg #[vI 9,vI a,vE,vI 0,vE,.slice A5 n5 cc5,.slice A6 n6 cc6]) ?_ rfl ?_
 ·exact qq121
 ·exact⟨_,_,_,_,_,_,_,_,_,_,_,_,_,_,rfl,hxx.keep (Sh.of_fr (Fr.refl [] Z) (fun b hb hlt=>⟨oM,fun x=>by cases x⟩)),HR.out _ _ (by(first|rw[if_neg dC] | rw[if_neg id]);exact .must_ hu .retP),HP.out,HF.out⟩):p:=h
theorem nn147(h:p:=by
 have kqq87:=@Hz _ @nn245;exact qq87):p:=h
theorem nn245(h:p:=by
 refine(may_no [125] P g c ts ⟨st.i+1,st.ok⟩ u_ HU.out HB.out y1n h0 HE.out).mono ?_;rintro e x3n ⟨rfl,fm⟩;have kqq322:=@Hz _ @nn594;exact qq322):p:=h
theorem nn266(h:p:=by
 obtain⟨⟨u0,u1,u2,u3,u4,u5,u6⟩,z0,z1,z2,z3,z4,z5,z6⟩:=Ao Q9;refine hK5.out _ _ ?hS1006 (fun hHeld=>?hq1006)
 case hS1006=>exact u5
 clear hK5 K5;have kqq366:=@Hz _ @nn729;exact qq366):p:=h
theorem nn349(h:p:=by
 have kqq11:=@Hz _ @nn18;exact qq11):p:=h
theorem nn443(h:p:=by
 cases hb:isB v st4.ok [[44]] with
 | true =>
  refine(may_yes [44] P g c ts st4 v hv hb w3_ h0 HE.out).mono ?_;rintro e y10 ⟨rfl,h0,fm⟩;have g0:=fm.keep g0 sO;have q0:=fm.keep q0 sO;have F:=F.trans fm;have kqq368:=@Hz _ @nn736
  exact qq368
 | false =>
  refine(may_no [44] P g c ts st4 v hv hb w3_ h0 HE.out).mono ?_;rintro e y10 ⟨rfl,fm⟩;have g0:=fm.keep g0 nE;have q0:=fm.keep q0 nE;have F:=F.trans0 fm;have h0:=h0.fr fm;have rowE:=An.keep (ok':=fun b=>(B<b∧¬ b=T∧¬ b=P)∧(Value.slice (some ⟨g9,0,none⟩) (ls.length+1) cp9).ownBlock≠some b) Jh rowE (Sh.of_fr fm (fun b hb hlt=>⟨hb,fun x=>by cases x⟩));have kqq274:=@Hz _ @nn540;exact qq274):p:=h
theorem nn444(h:p:=by
 refine hK3.out _ _ ?hS1004 (fun hHeld=>?hq1004)
 case hS1004=>exact(Ao Q8).1.2.2.2.2.2.1
 clear hK3 K3
 (try simp only[Act.put,sX])
 refine Am (i:=4) rfl kR (fun K4 hK4=>?hr1005);go_simp;refine hK4.out _ _ ?hS1005 (fun hHeld=>?hq1005)
 case hS1005=>exact Ab (Ae Q8 _) 5
 clear hK4 K4
 (try simp only[Act.put,sX])
 refine Am (i:=5) rfl kR (fun K5 hK5=>?hr1006);have kqq96:=@Hz _ @nn266;exact qq96):p:=h
theorem nn533(h:p:=by
 go_roundw
 case rel=>exact⟨true,ls++[Be u st0],args++[(.mk k3 a3 nm3 n3 s3 ls3 args3)],_,_,_,_,_,rfl,F,g0,q0,rowS,rowE,h0,(by have:=HLE0.out;(try simp only at *);omega),(by have:=HACC.out;simp at this ⊢;omega),(by have:=HAL.out;simp;omega),Hz (fun x' st' h=>HR1.out _ _ (by
  have hh:=Sf hu HOK.out hu1 hr3 hv hb (z:=x') (st':=st') (by rw[if_pos rfl,if_pos rfl];(first|(rw[if_pos rfl] at h;exact h)| (rw[if_pos trivial] at h;exact h)))
  (first|(rw[if_pos rfl];exact hh)| (rw[if_pos trivial];exact hh))))⟩
 case measure =>
  have hin1:=h0.inb;have hpl1:=h0.pl;rw[hpl1,hpl0]
  (try simp only at *)
  omega):p:=h
theorem nn540(h:p:=by
 go_roundw
 case rel=>exact⟨false,ls++[Be u st0],args++[(.mk k3 a3 nm3 n3 s3 ls3 args3)],_,_,_,_,_,rfl,F,g0,q0,rowS,rowE,h0,(by have:=HLE0.out;(try simp only at *);omega),(by have:=HACC.out;simp at this ⊢;omega),(by have:=HAL.out;simp;omega),Hz (fun x' st' h=>HR1.out _ _ (by
  have hh:=Sf hu HOK.out hu1 hr3 hv hb (z:=x') (st':=st') (by rw[if_neg dC,if_neg dC];(first|(rw[if_neg dC] at h;exact h)| (rw[if_neg id] at h;exact h)))
  (first|(rw[if_pos rfl];exact hh)| (rw[if_pos trivial];exact hh))))⟩
 case measure =>
  have hin1:=h0.inb;have hpl1:=h0.pl;rw[hpl1,hpl0]
  (try simp only at *)
  omega):p:=h
theorem nn580(h:p:=by
 refine Am (i:=3) rfl kR (fun K3 hK3=>?hr1004);have kqq234:=@Hz _ @nn444;exact qq234):p:=h
theorem nn594(h:p:=by
 obtain⟨i0s,his,hz0s,hz1s,hz2s⟩:=info_parts infoStr;have HIs:=Hz his;have HZ0s:=Hz hz0s;have HZ1s:=Hz hz1s;have HZ2s:=Hz hz2s;clear his hz0s hz1s hz2s;obtain⟨i0e,hie,hz0e,hz1e,hz2e⟩:=info_parts infoPat;have HIe:=Hz hie;have HZ0e:=Hz hz0e;have HZ1e:=Hz hz1e;have HZ2e:=Hz hz2e;clear hie hz0e hz1e hz2e
 have HR0:Hid (∀ x' st',Run ts (if true=true then LKp a [] [] else ENDp a [] []) ⟨st.i+1,st.ok⟩ (.p x') st'→Run ts (Dd (.marked (.mk 0 a [] 0 [] [] []))) st (.p x') st'):=Hz (fun x' st' h=>by
  (first|rw[if_pos rfl] at h|rw[if_pos trivial] at h)
  unfold Dd
  exact .may_no HT.out HB0.out (.els (.may_no HT.out HB1.out (.els (.may_no HT.out HB2.out (.els (.may_no HT.out HB3.out (.els (.may_yes HT.out HB4.out (.thn (.may_no HU.out HB.out (.els h))))))))))))
 go_loopw [5] (fun mv wr=>∃ (b:Bool) (ls:List LB) (args:List Al) (v5 v6:Value) (c5 c6:Nat→List Value) (st0:St),mv = .bool b∧Fr [P] w wr∧wr.heap[B]?=some (.cells #[vI 0,vI 0,vE,vI 0,vE,vZ,vZ] 123 (0,0))∧wr.heap[T]?=some (.cells #[vI 9,vI a,vE,vI 0,vE,v5,v6] 123 (0,0))∧Gp wr (fun b=>(B<b∧¬ b=T∧¬ b=P)∧(v6).ownBlock≠some b) v5 ls c5∧RowP wr (fun b=>(B<b∧¬ b=T∧¬ b=P)∧(v5).ownBlock≠some b) v6 args c6∧PSt P g c ts st0 wr∧st.i+1≤st0.i∧ls.length≤st0.i+(if b=true then 0 else 1)∧args.length=ls.length∧Hid (∀ x' st',Run ts (if b=true then LKp a ls args else ENDp a ls args) st0 (.p x') st'→Run ts (Dd (.marked (.mk 0 a [] 0 [] [] []))) st (.p x') st')) (fun mv wr=>2 *(ts.length-plI wr P)+(match mv with | .bool true=>1|_=>0))
 case atStart=>exact⟨true,[],[],vZ,vZ,fun _=>[],fun _=>[],_,rfl,F,g0,q0,An.nil_,An.nil_,h0,sM,sM,rfl,HR0⟩
 case round =>
  obtain⟨b,ls,args,v5,v6,c5,c6,st0,rfl,F,g0,q0,rowS,rowE,h0,hle0,hacc,hal,HR⟩:=hrel;clear HR0
  cases b with
  | false =>
   go_wp2_with fail;have kqq35:=@Hz _ @nn114
   exact qq35
  | true =>
   obtain⟨p0,p1,p2,_⟩:=Fp h0.blk;have hPw:=Aa h0.blk
   cases hok:st0.ok with
   | false =>
    rw[hok] at p2;have HOK:=Hz hok;clear hok;go_wp2_with fail;clear p0 p1 p2;have kqq35:=@Hz _ @nn113
    exact qq35
   | true =>
    have kqq350:=@Hz _ @nn679;exact qq350):p:=h
theorem nn608(h:p:=by
 have kqq368:=@Hz _ @nn735;exact qq368):p:=h
theorem nn679(h:p:=by
 obtain⟨⟨l0,l1,l2,l3,l4,l5,l6⟩,_⟩:=Ao q0;have hTwr:=Aa q0;have ROWH:=Hz rowS;clear rowS;go_wp2_with fail;clear p2;refine Bo (fun w'=>w'.cell? ⟨T,5,none⟩=some (v5)) kR kR ?hS1000 (fun K hK hHeld=>?hr1000)
 case hS1000=>go_keep
 have kqq319:=@Hz _ @nn580;exact qq319):p:=h
theorem nn683(h:p:=by
 clear hK K;clear l0 l1 l2 l3 l4 l5 l6 u0 u1 u2 u3 u4 u5 u6 z0 z1 z2 z3 z4 z5 z6;have f8:Fr [P] w2_ x8:=((Fr.refl [P] w2_).drew).trans f8;have rowE:=ROWH.out;obtain⟨F,g0,q0,h0,rowE,hsh,hnew,hsz⟩:=Iy (fld:=6) (size:=7) Jh f8 hx3 rfl hst g0 q0 rowE (fun b hb=>⟨hb.1.2.1,hb.1.2.2,by have:=hb.1.1;omega,by have:=hb.1.1;omega⟩) (fun b hb=>⟨⟨by have:=Aa g0;omega,by have:=Aa q0;omega,by have:=Aa g0;omega⟩,fun e=>by have:=X5 b e;omega⟩) (fun b hb=>by have:=hb.1.1;omega) F oM oM oM oM oM oM oM hown9 hgrow9 hfp9 (VV':=#[vI 9,vI a,vE,vI 0,vE,.slice (some ⟨g9,0,none⟩) (ls.length+1) cp9,.slice (some ⟨g8,0,none⟩) (args.length+1) cp8]) rfl;have kqq233:=@Hz _ @nn443;exact qq233):p:=h
theorem nn718(h:p:=by
 have cS:=fun W hW=>Hz (IHP.out P g c (Cf u1 (El u st0) [61]) W hW (by have:=HN.out;have:=h0.inb;have:=HLE0.out;omega))
 have X5:∀ gg,(Value.slice (some ⟨g9,0,none⟩) (ls.length+1) cp9).ownBlock=some gg→gg<w2_.heap.size:=fun gg hg=>rowS.own_lt gg hg
 obtain⟨⟨l0,l1,l2,l3,l4,l5,l6⟩,_⟩:=Ao q0;have hTwr:=Aa q0;have ROWH:=Hz rowE;clear rowE;go_wp2_with fail;refine Bo (fun w'=>w'.cell? ⟨T,6,none⟩=some (v6)) kR kR ?hS1009 (fun K hK hHeld=>?hr1009)
 case hS1009=>go_keep
 have kqq369:=@Hz _ @nn737;exact qq369):p:=h
theorem nn729(h:p:=by
 refine wpAnyH_done kR ?hr1008 _;refine Bi rfl ?hq1008;go_simp;refine hK.out _ _ ?hs1008;clear hK K;clear l0 l1 l2 l3 l4 l5 l6 u0 u1 u2 u3 u4 u5 u6 z0 z1 z2 z3 z4 z5 z6;have f8:Fr [P] wr x8:=((Fr.refl [P] wr).drew).trans f8;have rowS:=ROWH.out;obtain⟨F,g0,q0,h0,rowS,hsh,hnew,hsz⟩:=Iy (fld:=5) (size:=1) Cg f8 hxn rfl hst g0 q0 rowS (fun b hb=>⟨hb.1.2.1,hb.1.2.2,by have:=hb.1.1;omega,by have:=hb.1.1;omega⟩) (fun b hb=>⟨⟨by have:=Aa g0;omega,by have:=Aa q0;omega,by have:=Aa g0;omega⟩,fun e=>by have:=X6 b e;omega⟩) (fun b hb=>by have:=hb.1.1;omega) F oM oM oM oM oM oM oM hown9 hgrow9 hfp9 (VV':=#[vI 9,vI a,vE,vI 0,vE,.slice (some ⟨g9,0,none⟩) (ls.length+1) cp9,v6]) rfl;have rowE:=An.keep (ok':=fun b=>(B<b∧¬ b=T∧¬ b=P)∧(Value.slice (some ⟨g9,0,none⟩) (ls.length+1) cp9).ownBlock≠some b) Jh rowE (fun b hb hlt=>⟨⟨hb.1,fun e=>(hnew b e).elim hb.2 (fun h=>by omega)⟩,hsh b hlt hb.1.2.1 hb.1.2.2 hb.2⟩);have kqq325:=@Hz _ @nn608;exact qq325):p:=h
theorem nn735(h:p:=by
 have kqq362:=@Hz _ @nn718;exact qq362):p:=h
theorem nn736(h:p:=by
 have kqq269:=@Hz _ @nn533;exact qq269):p:=h
theorem nn737(h:p:=by
 go_simp;refine(cS _ (h0.fr (Fr.refl [] w2_).drew)).out.mono ?_;rintro e x8 ⟨k3,a3,nm3,n3,s3,ls3,args3,A53,n53,c53,A63,n63,c63,st4,rfl,hx3,hr3,hst4,f8⟩;have hst:=hst4;have Q8:=f8.keep (w:=w2_.drew) q0 sO;have hT8:=Aa Q8;have ROW9:=An.keep (w':=x8.alloc (.cells #[vI k3,vI a3,vS nm3,vI n3,vS s3,.slice A53 n53 c53,.slice A63 n63 c63] 123)) (ok':=fun b=>(B<b∧¬ b=T∧¬ b=P)∧(Value.slice (some ⟨g9,0,none⟩) (ls.length+1) cp9).ownBlock≠some b) Jh ROWH.out (Sh.of_fr (((Fr.refl [P] w2_).drew.trans f8).alloc _) (fun b hb hlt=>⟨hb,by simp;exact hb.1.2.2⟩));go_simp;refine hK3.out _ _ ?hS1013 (fun hHeld=>?hq1013)
 case hS1013=>exact(Ao Q8).1.2.2.2.2.2.2
 have kqq371:=@Hz _ @nn742;exact qq371):p:=h
theorem nn742(h:p:=by
 refine Av rF _ _ 121 rF 123 i0e _ 7 104 underlying121 HIe.out HZ0e.out HZ1e.out HZ2e.out rfl dC (v6) (args.length) (Co c6 (args.length)) rF ROW9.own ⟨x8.heap.size,0,none⟩ 1 1 [vI k3,vI a3,vS nm3,vI n3,vS s3,.slice A53 n53 c53,.slice A63 n63 c63] rF rfl (World.news_of_block (Ag x8 _)) (by simp[Value.oneCell']) (by simp only[maxLen];have:=HLEN.out;have:=HAL.out;omega) (by have:=HLEN.out;have:=HAL.out;omega) ?_;intro v9 w9 hown9 hgrow9 hfp9;obtain⟨g8,cp8,hv9⟩:∃ g cap,v9 = .slice (some ⟨g,0,none⟩) (args.length+1) cap:=Cd hown9
 subst hv9;have Q9:=(hgrow9.block T (Aa (Ae Q8 (.cells #[vI k3,vI a3,vS nm3,vI n3,vS s3,.slice A53 n53 c53,.slice A63 n63 c63] 123))) (fun e=>(ROWH.out.blk T e.symm).1.2.1 rfl)).trans (Ae Q8 (.cells #[vI k3,vI a3,vS nm3,vI n3,vS s3,.slice A53 n53 c53,.slice A63 n63 c63] 123));have hT9:=Aa Q9;obtain⟨⟨u0,u1,u2,u3,u4,u5,u6⟩,z0,z1,z2,z3,z4,z5,z6⟩:=Ao Q9;have kqq352:=@Hz _ @nn683;exact qq352):p:=h
theorem Z6(ts:List Tok)(hE:Cx ts)(N:Nat)(ihP:GP ts N 2 .pat 108)(P g c:Nat)(st:St)(a:Int)(w:World)(h:PSt P g c ts st w)(hm:16 *(ts.length-st.i)<N+1)(t:Tok)(ht:ts[st.i]?=some t)(hb0:isB t st.ok [[45]]=false)(hb1:isB t st.ok [[116,114,117,101]]=false)(hb2:isB t st.ok [[102,97,108,115,101]]=false)(hb3:isB t st.ok [[40]]=false)(hb4:isB t st.ok [[123]]=true)(u_:Tok)(hu:ts[st.i+1]?=some u_)(hb:isB u_ st.ok [[125]]=false):Calls prog 160 #[.pointer (some ⟨P,0,none⟩),.agg #[vI 0,vI a,vE,vI 0,vE,vZ,vZ]] w (Tc P g c ts st (Dd (.marked (.mk 0 a [] 0 [] [] []))) w):=by
 have HU:=Hz hu;clear hu;have HB:=Hz hb;clear hb;have kqq145:=@Hz _ @nn349;exact qq145
end
theorem Xp(ts:List Tok)(hE:Cx ts)(N:Nat)(ihP:GP ts N 2 .pat 108):GM ts (N+1):=by
 intro P g c st a w h hm;obtain⟨t,ht⟩:=Bn h.inb;have nxt:∀ {l:List LB},isB t st.ok l=true→∃ u,ts[st.i+1]?=some u:=fun hb=>Bn ((hE.2 _ _ ht).1.1 (Jg hb).2)
 cases h0:isB t st.ok [[45]] with
 | true =>
  obtain⟨u,hu⟩:=nxt h0;by_cases hk:u.k=4
  ·exact Vh ts hE N ihP P g c st a w h hm t ht h0 u hu hk
  ·exact Qh ts hE N ihP P g c st a w h hm t ht h0 u hu hk
 | false =>
  cases h1:isB t st.ok [[116,114,117,101]] with
  | true=>exact Xq ts hE N ihP P g c st a w h hm t ht h0 h1
  | false =>
   cases h2:isB t st.ok [[102,97,108,115,101]] with
   | true=>exact Vg ts hE N ihP P g c st a w h hm t ht h0 h1 h2
   | false =>
    cases h3:isB t st.ok [[40]] with
    | true=>exact Vi ts hE N ihP P g c st a w h hm t ht h0 h1 h2 h3
    | false =>
     cases h4:isB t st.ok [[123]] with
     | true =>
      obtain⟨u,hu⟩:=nxt h4
      cases hb:isB u st.ok [[125]] with
      | true=>exact Vf ts hE N ihP P g c st a w h hm t ht h0 h1 h2 h3 h4 u hu hb
      | false=>exact Z6 ts hE N ihP P g c st a w h hm t ht h0 h1 h2 h3 h4 u hu hb
     | false=>exact Xo ts hE N ihP P g c st a w h hm t ht h0 h1 h2 h3 h4
structure Every (ts:List Tok)(N:Nat):Prop where
 all:Hi ts N
 b:GB ts N
 f:GF ts N
 a:GA ts N
 pat:GP ts N 2 .pat 108
 patom:GP ts N 1 .patom 138
 m:GM ts N
theorem GE.zero(ts:List Tok)(lv:Nat)(nt:NT)(fid:FuncId):GE ts 0 lv nt fid:=fun _ _ _ _ _ _ h=>absurd h (Nat.not_lt_zero _)
theorem every(ts:List Tok)(hE:Cx ts):∀ N,Every ts N
 | 0=>⟨⟨GE.zero _ _ _ _,GE.zero _ _ _ _,GE.zero _ _ _ _,GE.zero _ _ _ _,GE.zero _ _ _ _,GE.zero _ _ _ _,GE.zero _ _ _ _,GE.zero _ _ _ _,GE.zero _ _ _ _,GE.zero _ _ _ _,GE.zero _ _ _ _,GE.zero _ _ _ _⟩,
   fun _ _ _ _ _ _ _ h=>absurd h (Nat.not_lt_zero _),fun _ _ _ _ _ _ _ _ _ h=>absurd h (Nat.not_lt_zero _),fun _ _ _ _ _ _ _ _ h=>absurd h (Nat.not_lt_zero _),fun _ _ _ _ _ _ h=>absurd h (Nat.not_lt_zero _),fun _ _ _ _ _ _ h=>absurd h (Nat.not_lt_zero _),fun _ _ _ _ _ _ _ h=>absurd h (Nat.not_lt_zero _)⟩
 | N+1=>by
  have ih:=every ts hE N
  exact⟨⟨fn_step ts hE N ih.all,seq_step ts hE N ih.all,item_step ts hE N ih.all ih.f ih.a,or_step ts hE N ih.all,and_step ts hE N ih.all,cmp_step ts hE N ih.all,sum_step ts hE N ih.all,prod_step ts hE N ih.all,unary_step ts hE N ih.all,app_step ts hE N ih.all,post_step ts hE N ih.all,atom_step ts hE N ih.all ih.b⟩,
   Wp ts hE N ih.all,fn0_step ts hE N ih.all,arms_step ts hE N ih.all ih.pat,pat_step ts hE N ih.patom,patom_step ts hE N ih.m,Xp ts hE N ih.pat⟩
theorem seq_any(ts:List Tok)(hE:Cx ts)(P g c:Nat)(st:St)(w:World)(h:PSt P g c ts st w):Calls prog 15 #[.pointer (some ⟨P,0,none⟩)] w (Kw P g c ts st (body .seq) w):=
 (every ts hE (16 *(ts.length-st.i)+14)).all.seq P g c st w h oM
section
attribute [local go_sem ↓] Go.wp_at_zero Go.wp_at_succ
theorem endOk_of{s:LB}{ts:List Tok}(h:Es s = .ok ts):Cx ts:=by
 obtain⟨_,_,h3,h4,ys,rfl,hg⟩:=Om h;refine⟨h3,fun i t ht=>⟨?_,h4 t (List.mem_of_getElem? ht)⟩⟩;rw[La',List.length_singleton];rcases Nat.lt_trichotomy i ys.length with hi|hi|hi
 ·rw[List.getElem?_append_left hi] at ht;have:=hg t (List.mem_of_getElem? ht);exact⟨fun _=>by omega,fun _ h=>by have:=this.1;omega⟩
 ·subst hi;rw[List.getElem?_append_right (Nr' _),Nat.sub_self] at ht;simp at ht;subst ht;exact⟨fun h=>absurd rfl h,fun h=>by omega⟩
 ·have:(ys++[(⟨0,s.length,[],0⟩:Tok)])[i]?=none:=List.getElem?_eq_none sO;rw[this] at ht;cases ht
inductive PR (s:LB):Ad→Int→Int→Prop
 | lexErr {er:Int} {p:Nat} (h:Es s = .error (er,p)):PR s .zero er p
 | syn {ts:List Tok} {x:Ad} {st':St} {t:Tok} (hl:Es s = .ok ts) (hr:Run ts (body .seq) ⟨0,true⟩ (.e x) st') (ht:ts[st'.i]?=some t) (hbad:st'.ok=false∨t.k≠0):PR s .zero 21 t.at'
 | many {ts:List Tok} {x:Ad} {st':St} {t:Tok} (hl:Es s = .ok ts) (hr:Run ts (body .seq) ⟨0,true⟩ (.e x) st') (ht:ts[st'.i]?=some t) (hok:st'.ok=true) (hend:t.k=0) (hm:4096<szE x):PR s .zero 3 0
 | deep {ts:List Tok} {x:Ad} {st':St} {t:Tok} {p:Int×Nat} (hl:Es s = .ok ts) (hr:Run ts (body .seq) ⟨0,true⟩ (.e x) st') (ht:ts[st'.i]?=some t) (hok:st'.ok=true) (hend:t.k=0) (hm:szE x≤4096) (hd:Hj 200 x=some p):PR s .zero 22 p.1
 | ok {ts:List Tok} {x:Ad} {st':St} {t:Tok} (hl:Es s = .ok ts) (hr:Run ts (body .seq) ⟨0,true⟩ (.e x) st') (ht:ts[st'.i]?=some t) (hok:st'.ok=true) (hend:t.k=0) (hm:szE x≤4096) (hd:Hj 200 x=none):PR s x 0 0
theorem nn109(h:p:=by
 have kqq253:=@Hz _ @nn506;exact qq253):p:=h
theorem nn110(h:p:=by
 have kqq253:=@Hz _ @nn505;exact qq253):p:=h
theorem nn217(h:p:=by
 refine bodyPost_ret (v:=.tuple #[.agg #[vI 0,vI 0,vE,vI 0,vE,vZ,vZ,vZ],vI 21,vI t.at']) ?_ rfl ?_
 ·exact qq162
 ·exact⟨0,0,[],0,[],[],[],[],none,0,0,none,0,0,none,0,0,21,t.at',rfl,Ak.leaf Z _ 0 0 [] 0 [],PR.syn HL.out hr1 HT.out (.inl HOK.out),HF.out⟩):p:=h
theorem nn218(h:p:=by
 refine bodyPost_ret (v:=.tuple #[.agg #[vI 0,vI 0,vE,vI 0,vE,vZ,vZ,vZ],vI 3,vI 0]) ?_ rfl ?_
 ·exact qq162
 ·exact⟨0,0,[],0,[],[],[],[],none,0,0,none,0,0,none,0,0,3,0,rfl,Ak.leaf Z _ 0 0 [] 0 [],PR.many HL.out hr1 HT.out HOK.out HK.out HM.out,HF.out⟩):p:=h
theorem nn219(h:p:=by
 refine bodyPost_ret (v:=.tuple #[.agg #[vI 0,vI 0,vE,vI 0,vE,vZ,vZ,vZ],vI 21,vI t.at']) ?_ rfl ?_
 ·exact qq162
 ·exact⟨0,0,[],0,[],[],[],[],none,0,0,none,0,0,none,0,0,21,t.at',rfl,Ak.leaf Z _ 0 0 [] 0 [],PR.syn HL.out hr1 HT.out (.inr HK.out),HF.out⟩):p:=h
theorem nn391(h:p:=by
 cases hl:Es s.data.toList with
 | error x =>
  obtain⟨er,p⟩:=x;have her:er≠0:=by rcases Pe hl with⟨_,h,_⟩| ⟨_,_,h,_⟩<;> omega
  have her2:(er != 0)=true:=bne_iff_ne.2 her;have HL:=Hz hl;clear hl her;refine(Lex_er s HS.out HL.out w1 (HV.out.fr f0)).mono ?_;rintro e w2 ⟨rfl,f1⟩;have g0:=f1.keep g0 nE;have F:=f0.trans f1;clear f0 f1;have HG:=Hz (Aq g0 (vI 0) (vI 0) (vE) (vI 0) (vE) (vZ) (vZ) (vZ));have HF:=Hz (F.step (Aj w2 B (vI 0) (vI 0) (vE) (vI 0) (vE) (vZ) (vZ) (vZ)) (fun x hx => .inr (by simp at hx;omega)));unfold st8 at HG HF;have hBy:=Aa g0;obtain⟨⟨u0,u1,u2,u3,u4,u5,u6,u7⟩,z0,z1,z2,z3,z4,z5,z6,z7⟩:=Ac g0;go_wp2_with fail;generalize (((((((w2.setCell ⟨B,0,none⟩ (vI 0)).setCell ⟨B,1,none⟩ (vI 0)).setCell ⟨B,2,none⟩ (vE)).setCell ⟨B,3,none⟩ (vI 0)).setCell ⟨B,4,none⟩ (vE)).setCell ⟨B,5,none⟩ (vZ)).setCell ⟨B,6,none⟩ (vZ)).setCell ⟨B,7,none⟩ (vZ)=Z at HG HF ⊢;obtain⟨⟨d0,d1,d2,d3,d4,d5,d6,d7⟩,_⟩:=Ac HG.out;refine bodyPost_ret (v:=.tuple #[.agg #[vI 0,vI 0,vE,vI 0,vE,vZ,vZ,vZ],vI er,vI p]) ?_ rfl ?_
  ·exact qq162
  ·exact⟨0,0,[],0,[],[],[],[],none,0,0,none,0,0,none,0,0,er,p,rfl,Ak.leaf Z _ 0 0 [] 0 [],PR.lexErr HL.out,HF.out⟩
 | ok ts =>
  have HE:=Hz (endOk_of hl);obtain⟨_,_,_,_,ys,hys,_⟩:=Om hl;have htl:0<ts.length:=by rw[hys];simp
  clear hys;have HL:=Hz hl;clear hl;refine(Lex_ok s HS.out HL.out w1 (HV.out.fr f0)).mono ?_;rintro e w2 ⟨⟨g,c,rfl,hg,hRT⟩,f1⟩;have HRT:=Hz hRT;clear hRT;have g0:=f1.keep g0 nE;have F:=f0.trans f1;have hBw:=Aa g0;clear f0 f1;go_wp2_with fail;have fp:Fr [] w2 (w2.alloc (.cells #[.slice (some ⟨g,0,none⟩) ts.length c,vI 0,.bool true] 49)):=(Fr.refl [] w2).alloc _;have qP:=Ag w2 (.cells #[.slice (some ⟨g,0,none⟩) ts.length c,vI 0,.bool true] 49)
  have h0:PSt w2.heap.size g c ts ⟨0,true⟩ (w2.alloc (.cells #[.slice (some ⟨g,0,none⟩) ts.length c,vI 0,.bool true] 49)):=⟨qP,HRT.out.fr fp hg,Nl' hg fp.size,oM,htl⟩
  have g0:=fp.keep g0 nE;have F:=F.trans fp
  generalize w2.alloc (.cells #[.slice (some ⟨g,0,none⟩) ts.length c,vI 0,.bool true] 49)=w3 at *
  generalize w2.heap.size=P at *
  clear HRT qP fp;have hBw3:=Aa g0;have hPw3:=Aa h0.blk;refine(seq_any ts HE.out P g c ⟨0,true⟩ w3 h0).mono ?_;rintro e x1 ⟨k1,a1,nm1,n1,s1,ls1,args1,arms1,A51,n51,c51,A61,n61,c61,A71,n71,c71,st2,rfl,hx1,hr1,hst2,f1⟩;have g0:=f1.keep g0 sO;have F:=F.step f1 (fun x hx => .inr (by simp at hx;omega));have hs1:=f1.size;have hBx1:=Aa g0;clear f1 h0;obtain⟨p0,p1,p2,_⟩:=Fp hst2.blk;have hPx:=Aa hst2.blk;obtain⟨t,ht⟩:=Bn hst2.inb;have HT:=Hz ht;clear ht
  cases hok:st2.ok with
  | false =>
   rw[hok] at p2;have HOK:=Hz hok;clear hok;have r1:=tok_f1;go_wp2_with fail;clear p0 p1 p2;have kqq33:=@Hz _ @nn110
   exact qq33
  | true =>
   rw[hok] at p2;have HOK:=Hz hok;clear hok;have r0:=Od;have r1:=tok_f1;go_wp2_with fail;clear p0 p1 p2;have kqq33:=@Hz _ @nn109;exact qq33):p:=h
theorem nn505(h:p:=by
 have kqq331:=@Hz _ @nn620;exact qq331):p:=h
theorem nn506(h:p:=by
 rintro e y8 ⟨rfl,fm⟩;have g0:=fm.keep g0 nE;have F:=F.trans0 fm;have h2:=h2.fr fm;have q1:=fm.keep q1 nE;have hx1:=hx1.keep (ok':=fun b=>B<b∧b<y8.heap.size) (Sh.of_fr fm (fun b hb hlt=>⟨⟨hb.1,by have:=fm.size;omega⟩,fun x=>by cases x⟩));clear fm
 cases hk:(t.k != 0)with
 | true =>
  have HK:Hid (t.k≠0):=Hz (bne_iff_ne.1 hk);go_wp2_with fail;refine(Cr P g c ts st2 t HT.out y8 h2 HE.out).mono ?_;have kqq331:=@Hz _ @nn619
  exact qq331
 | false =>
  have HK:Hid (t.k=0):=Hz (by simpa using hk);have hcost:=hr1.cost (b:=0) (wtE .seq) HOK.out
  have hsz:szE (.mk k1 a1 nm1 n1 s1 ls1 args1 arms1)≤8194:=by
   have h1:szE (.mk k1 a1 nm1 n1 s1 ls1 args1 arms1)+1≤0+2 *(st2.i-0):=hcost;have:=h2.inb;have:=HE.out.1;omega
  have HSZ:=Hz hsz;clear hcost hsz;obtain⟨⟨l0,l1,l2,l3,l4,l5,l6,l7⟩,_⟩:=Ac q1;have hT9:=Aa q1;have cC:=Hz (Tl k1 a1 nm1 n1 s1 ls1 args1 arms1 A51 n51 c51 A61 n61 c61 A71 n71 c71 4096 oM oM y8 (hx1.keep (ok':=fun b=>b<y8.heap.size) (Sh.of_fr (Fr.refl [] y8) (fun b hb hlt=>⟨hb.2,fun x=>by cases x⟩))) (by have:=HSZ.out;omega));go_wp2_with fail;refine cC.out.mono ?_;rintro e y9 ⟨rfl,fm⟩;clear cC hk;have g0:=fm.keep g0 nE;have q1:=fm.keep q1 nE;have F:=F.trans0 fm;have hx1:=hx1.keep (ok':=fun b=>B<b∧b<y9.heap.size) (Sh.of_fr fm (fun b hb hlt=>⟨⟨hb.1,by have:=fm.size;omega⟩,fun x=>by cases x⟩));clear fm l0 l1 l2 l3 l4 l5 l6 l7 hT9
  generalize hRR:min (szE (.mk k1 a1 nm1 n1 s1 ls1 args1 arms1):Int) (4096+1)=RR at *
  by_cases hm:4096<szE (.mk k1 a1 nm1 n1 s1 ls1 args1 arms1)
  ·have hmin:RR=4097:=by omega
   have HM:=Hz hm;clear hm hRR;subst hmin;have kqq79:=@Hz _ @nn218;exact qq79
  ·have HM:Hid (szE (.mk k1 a1 nm1 n1 s1 ls1 args1 arms1)≤4096):=Hz oM;have hle:RR≤4096:=by omega
   clear hm hRR;obtain⟨⟨l0,l1,l2,l3,l4,l5,l6,l7⟩,_⟩:=Ac q1;have hT9:=Aa q1;have cD:=Hz (V8 k1 a1 nm1 n1 s1 ls1 args1 arms1 A51 n51 c51 A61 n61 c61 A71 n71 c71 200 y9 (hx1.keep (ok':=fun b=>b<y9.heap.size) (Sh.of_fr (Fr.refl [] y9) (fun b hb hlt=>⟨hb.2,fun x=>by cases x⟩))) (by have:=HSZ.out;omega))
   cases hd:Hj 200 (.mk k1 a1 nm1 n1 s1 ls1 args1 arms1)with
   | some p =>
    have HDP:=Hz hd;rw[hd] at cD;clear hd;go_wp2_with fail;refine cD.out.mono ?_;rintro e y10 ⟨rfl,fm⟩;clear cD hle l0 l1 l2 l3 l4 l5 l6 l7 hT9;have g0:=fm.keep g0 nE;have F:=F.trans0 fm;have HG:=Hz (Aq g0 (vI 0) (vI 0) (vE) (vI 0) (vE) (vZ) (vZ) (vZ));have HF:=Hz (F.step (Aj y10 B (vI 0) (vI 0) (vE) (vI 0) (vE) (vZ) (vZ) (vZ)) (fun x hx => .inr (by simp at hx;omega)));unfold st8 at HG HF;have hBy:=Aa g0;obtain⟨⟨u0,u1,u2,u3,u4,u5,u6,u7⟩,z0,z1,z2,z3,z4,z5,z6,z7⟩:=Ac g0;go_wp2_with fail;generalize (((((((y10.setCell ⟨B,0,none⟩ (vI 0)).setCell ⟨B,1,none⟩ (vI 0)).setCell ⟨B,2,none⟩ (vE)).setCell ⟨B,3,none⟩ (vI 0)).setCell ⟨B,4,none⟩ (vE)).setCell ⟨B,5,none⟩ (vZ)).setCell ⟨B,6,none⟩ (vZ)).setCell ⟨B,7,none⟩ (vZ)=Z at HG HF ⊢;obtain⟨⟨d0,d1,d2,d3,d4,d5,d6,d7⟩,_⟩:=Ac HG.out;refine bodyPost_ret (v:=.tuple #[.agg #[vI 0,vI 0,vE,vI 0,vE,vZ,vZ,vZ],vI 22,vI p.1]) ?_ rfl ?_
    ·exact qq162
    ·exact⟨0,0,[],0,[],[],[],[],none,0,0,none,0,0,none,0,0,22,p.1,rfl,Ak.leaf Z _ 0 0 [] 0 [],PR.deep HL.out hr1 HT.out HOK.out HK.out HM.out HDP.out,HF.out⟩
   | none =>
    have HDP:=Hz hd;rw[hd] at cD;clear hd;go_wp2_with fail;refine cD.out.mono ?_;rintro e y10 ⟨rfl,fm⟩;clear cD hle l0 l1 l2 l3 l4 l5 l6 l7 hT9;have g0:=fm.keep g0 nE;have q1:=fm.keep q1 nE;have F:=F.trans0 fm;have hx1:=hx1.keep (ok':=fun b=>B<b) (Sh.of_fr fm (fun b hb hlt=>⟨hb.1,fun x=>by cases x⟩));have HG:=Hz (Aq g0 (vI k1) (vI a1) (vS nm1) (vI n1) (vS s1) (.slice A51 n51 c51) (.slice A61 n61 c61) (.slice A71 n71 c71));have HF:=Hz (F.step (Aj y10 B (vI k1) (vI a1) (vS nm1) (vI n1) (vS s1) (.slice A51 n51 c51) (.slice A61 n61 c61) (.slice A71 n71 c71)) (fun x hx => .inr (by simp at hx;omega)));have HX:Hid (Ak (st8 y10 B (vI k1) (vI a1) (vS nm1) (vI n1) (vS s1) (.slice A51 n51 c51) (.slice A61 n61 c61) (.slice A71 n71 c71)) (fun b=>w.heap.size≤b) (.mk k1 a1 nm1 n1 s1 ls1 args1 arms1) [vI k1,vI a1,vS nm1,vI n1,vS s1,.slice A51 n51 c51,.slice A61 n61 c61,.slice A71 n71 c71]):=Hz (hx1.keep (Sh.of_fr (Aj y10 B (vI k1) (vI a1) (vS nm1) (vI n1) (vS s1) (.slice A51 n51 c51) (.slice A61 n61 c61) (.slice A71 n71 c71)) (fun b hb hlt=>⟨oM,by simp;omega⟩)));unfold st8 at HG HF HX;have hBy:=Aa g0;have hTy:=Aa q1;obtain⟨⟨u0,u1,u2,u3,u4,u5,u6,u7⟩,z0,z1,z2,z3,z4,z5,z6,z7⟩:=Ac g0;obtain⟨⟨l0,l1,l2,l3,l4,l5,l6,l7⟩,_⟩:=Ac q1;go_wp2_with fail;generalize (((((((y10.setCell ⟨B,0,none⟩ (vI k1)).setCell ⟨B,1,none⟩ (vI a1)).setCell ⟨B,2,none⟩ (vS nm1)).setCell ⟨B,3,none⟩ (vI n1)).setCell ⟨B,4,none⟩ (vS s1)).setCell ⟨B,5,none⟩ (.slice A51 n51 c51)).setCell ⟨B,6,none⟩ (.slice A61 n61 c61)).setCell ⟨B,7,none⟩ (.slice A71 n71 c71)=Z at HG HF HX ⊢;obtain⟨⟨d0,d1,d2,d3,d4,d5,d6,d7⟩,_⟩:=Ac HG.out;refine bodyPost_ret (v:=.tuple #[.agg #[vI k1,vI a1,vS nm1,vI n1,vS s1,.slice A51 n51 c51,.slice A61 n61 c61,.slice A71 n71 c71],vI 0,vI 0]) ?_ rfl ?_
    ·exact qq162
    ·exact⟨_,_,_,_,_,_,_,_,_,_,_,_,_,_,_,_,_,0,0,rfl,HX.out,PR.ok HL.out hr1 HT.out HOK.out HK.out HM.out HDP.out,HF.out⟩):p:=h
theorem nn619(h:p:=by
 have kqq79:=@Hz _ @nn219;exact qq79):p:=h
theorem nn620(h:p:=by
 have kqq79:=@Hz _ @nn217;exact qq79):p:=h
theorem Parse_any(s:ByteArray)(hs:s.size≤9223372036854775807)(w:World)(hV:E1 w):
  Calls prog 8 #[.string s] w fun e w'=>∃ (k a:Int) (nm:LB) (n:Int) (s':LB) (ls:List LB) (args:List Ad) (arms:List (Al×Ad)) (A5:Option Addr) (n5 c5:Nat) (A6:Option Addr) (n6 c6:Nat) (A7:Option Addr) (n7 c7:Nat) (er at_:Int),
   e = .returned (.tuple #[.agg #[vI k,vI a,vS nm,vI n,vS s',.slice A5 n5 c5,.slice A6 n6 c6,.slice A7 n7 c7],vI er,vI at_])∧Ak w' (fun b=>w.heap.size≤b) (.mk k a nm n s' ls args arms) [vI k,vI a,vS nm,vI n,vS s',.slice A5 n5 c5,.slice A6 n6 c6,.slice A7 n7 c7]∧PR s.data.toList (.mk k a nm n s' ls args arms) er at_∧Fr [] w w':=by
 have HV:=Hz hV;have HS:=Hz hs;clear hV hs;go_enter func8,ntmps8;have kqq188:=@Hz _ @nn391;exact qq188
end
section
open Go.ChangeShapes Go.WideShapes Go.ChangeAt Go.ChangeMaps Go.RowKit
theorem own:ownKnob Tryz.prog.godebug=none:=by kernel_rfl
noncomputable def doorW(os:Os):World :=
 { World.doorLaid Tryz.prog 72 os with heap:=(World.doorLaid Tryz.prog 72 os).heap.modify 4 fun
   | .cells _ t frozen => .cells (Lib.firstTab.map fun z=>Value.int .u8 z).toArray t frozen
   | o=>o }
theorem laid_met(os:Os)(args:Array Value):laidMet Tryz.prog Rows.resolveFitsRow.laid ((doorW os).forCall (fun _ _=>0) ⟨#[],args,[]⟩).memory :=
 laidMet_of_run' 8 (by kernel_rfl) (by kernel_rfl)
end
theorem Ov:∀ (l l':List Al)(d:Nat),l.length=l'.length→(∀ (i:Nat)(x y:Al),l[i]?=some x→l'[i]?=some y→∀ d,(Cn x d).map Prod.snd=(Cn y d).map Prod.snd)→(Dx l d).map Prod.snd=(Dx l' d).map Prod.snd
 | [],[],d,_,_=>rfl
 | [],_::_,d,h,_=>by simp at h
 | _::_,[],d,h,_=>by simp at h
 | x::l,y::l',d,hl,h=>by
  rw[Dx,Dx,List.map_append,List.map_append,h 0 x y rfl rfl d,Ov l l' d (by simpa using hl) (fun i x y hx hy=>h (i+1) x y (by simpa using hx) (by simpa using hy))]
theorem Ou:∀ (l l':List Ad)(d:Nat),l.length=l'.length→(∀ (i:Nat)(x y:Ad),l[i]?=some x→l'[i]?=some y→∀ d,(Cm x d).map Prod.snd=(Cm y d).map Prod.snd)→(Dw l d).map Prod.snd=(Dw l' d).map Prod.snd
 | [],[],d,_,_=>rfl
 | [],_::_,d,h,_=>by simp at h
 | _::_,[],d,h,_=>by simp at h
 | x::l,y::l',d,hl,h=>by
  rw[Dw,Dw,List.map_append,List.map_append,h 0 x y rfl rfl d,Ou l l' d (by simpa using hl) (fun i x y hx hy=>h (i+1) x y (by simpa using hx) (by simpa using hy))]
theorem Ot:∀ (l l':List (Al×Ad))(d:Nat),l.length=l'.length→(∀ (i:Nat)(p p':Al)(x y:Ad),l[i]?=some (p,x)→l'[i]?=some (p',y)→∀ d,(Cn p d).map Prod.snd=(Cn p' d).map Prod.snd)→
  (∀ (i:Nat) (p p':Al) (x y:Ad),l[i]?=some (p,x)→l'[i]?=some (p',y)→∀ d,(Cm x d).map Prod.snd=(Cm y d).map Prod.snd)→(Cu l d).map Prod.snd=(Cu l' d).map Prod.snd
 | [],[],d,_,_,_=>rfl
 | [],_::_,d,h,_,_=>by simp at h
 | _::_,[],d,h,_,_=>by simp at h
 | (p,x)::l,(p',y)::l',d,hl,hp,h=>by
  rw[Cu,Cu,List.map_append,List.map_append,Ot l l' d (by simpa using hl) (fun i p p' x y hx hy=>hp (i+1) p p' x y (by simpa using hx) (by simpa using hy)) (fun i p p' x y hx hy=>h (i+1) p p' x y (by simpa using hx) (by simpa using hy)),
   Pk,Pk,List.map_append,List.map_append,hp 0 p p' x y rfl rfl d,h 0 p p' x y rfl rfl d]
theorem Fu.parts{x y:Al}(h:Fu x y):∀ d,(Cn x d).map Prod.snd=(Cn y d).map Prod.snd:=by
 induction h with
 | mk hl h ih=>intro d;rw[M2,M2,List.map_cons,List.map_cons,Ov _ _ (d+1) hl ih]
theorem Ds.parts{x y:Ad}(h:Ds x y):∀ d,(Cm x d).map Prod.snd=(Cm y d).map Prod.snd:=by
 induction h with
 | mk hl h hl2 hp hx ih ih2 =>
  intro d;rw[M1,M1,List.map_cons,List.map_cons,List.map_append,List.map_append,Ou _ _ (d+1) hl ih,Ot _ _ (d+1) hl2 (fun i p p' x y h1 h2=>(hp i p p' x y h1 h2).parts) ih2]
theorem Ds.sz{x y:Ad}(h:Ds x y):szE y=szE x:=by
 have:=congrArg List.length (h.parts 1);rw[List.length_map,List.length_map,J7,J7] at this;exact this.symm
theorem Ds.deep{x y:Ad}(h:Ds x y)(m:Int):Hj m x=none↔Hj m y=none:=by
 have key:∀ x,Hj m x=none↔∀ d ∈ (Cm x 1).map Prod.snd,¬ m<(d:Int):=fun x=>by
  unfold Hj;rw[List.find?_eq_none];simp;exact⟨fun h d a=>h a d,fun h a d=>h d a⟩
 rw[key,key,h.parts 1]
abbrev Sp:=Int×List UInt8×Int
def stR:Except (Int×Nat) (List Tok)→Option (List Sp)
 | .error _=>none
 | .ok ts=>some (ts.map Mq)
theorem stR_shift(d:Nat)(r:Except (Int×Nat) (List Tok)):stR (shiftR d r)=stR r:=by
 cases r with
 | error e=>rfl
 | ok ts=>simp[stR,shiftR,Mq,shiftT]
def Az(l:LB):Option (List Sp):=stR (Gq l.length 0 l)
theorem lexS_at{f:Nat}(a:Nat){l:LB}(hf:l.length≤f):stR (Gq f a l)=Az l:=by
 have h:=N1 a f 0 l;rw[Nat.zero_add] at h;rw[h,stR_shift,My l.length f l.length 0 l (Nr' _) hf (Nr' _)];rfl
theorem Zy{c:UInt8}(l:LB)(h:Fa c=true):Az (c::l)=Az l:=by
 unfold Az;rw[Lc',J5 _ _ _ h,lexS_at 1 (Nr' _)];rfl
theorem Ct{c:UInt8}{r:LB}{k:Int}{t:LB}{n:Int}{m:Nat}(hc:Fa c=false)(ht:tok (c::r)= .ok (k,t,n,m)):Az (c::r)=(Az ((c::r).drop m)).map ((k,t,n):: ·):=by
 have hm:=Kp ht;rw[Lc'] at hm;have key:=lexS_at (f:=r.length) (0+m) (l:=(c::r).drop m) (by rw[List.length_drop,Lc'];omega);rw[← key];unfold Az;rw[Lc',Mg _ _ _ hc,ht];simp only
 cases Gq r.length (0+m) ((c::r).drop m)with
 | error e=>rfl
 | ok l=>rfl
theorem tok_of{ts:List Tok}{L:List Sp}(h:ts.map Mq=L){i:Nat}{k:Int}{tx:LB}{n:Int}(hi:L[i]?=some (k,tx,n)):∃ a,ts[i]?=some ⟨k,a,tx,n⟩:=by
 subst h;rw[List.getElem?_map] at hi
 cases hu:ts[i]? with
 | none=>rw[hu] at hi;cases hi
 | some u =>
  rw[hu] at hi;obtain⟨q',a',tx',n'⟩:=u;simp only[Mq,Option.map_some,Option.some.injEq,Prod.mk.injEq] at hi;obtain⟨rfl,rfl,rfl⟩:=hi;exact⟨a',rfl⟩
theorem strip_of{ts:List Tok}{L:List Sp}(h:ts.map Mq=L){i:Nat}{k:Int}{a:Nat}{tx:LB}{n:Int}(hi:ts[i]?=some ⟨k,a,tx,n⟩):L[i]?=some (k,tx,n):=by
 subst h;rw[List.getElem?_map,hi];rfl
def Shut(t:Tok):Prop:=O8 t=true∧t.text=[41]
theorem Rp{t:Tok}(h:Shut t)(ok:Bool){l:List LB}(hl:l.contains [41]=false):isB t ok l=false:=by
 unfold isB;rw[h.2,hl];simp
theorem shut_k{t:Tok}(h:Shut t):t.k=6∨t.k=7:=by
 have:=h.1;simpa [O8] using this
section
variable {t:Tok} (H:Shut t)
include H
theorem Ja{s:LB}{k:Bool→Cmd}(hs:[s].contains [41]=false)(h:Ec t (k false)):Ec t (Ed s k):=.look fun ok=>by
 rw[Rp H ok hs,if_neg dC];exact h
theorem shut_is{l:List LB}{k:Bool→Cmd}(hs:l.contains [41]=false)(h:Ec t (k false)):Ec t (isC l k):=.look fun ok=>by
 rw[Rp H ok hs];exact h
theorem Yh(ok:Bool):Di t ok=false:=by
 unfold Di;rw[Rp H ok dC];rcases shut_k H with h|h <;> rw[h] <;> cases ok <;> rfl
theorem shut_atom:Ec t (body .atom):=.look fun ok=>by
 rw[Yh H,if_neg sM];exact .fail
theorem shut_post:Ec t (body .post):=.look fun ok=>Ja H dC (by rw[if_neg dC];exact .callE (shut_atom H))
theorem shut_app:Ec t (body .app):=.look fun ok=>by
 rw[if_neg (by rcases shut_k H with h|h <;> rw[h] <;> cases ok <;> decide),if_neg (by rw[H.2];simp[Bz])];exact .callE (shut_post H)
theorem shut_unary:Ec t (body .unary):=.look fun ok=>Ja H dC (by rw[if_neg dC];exact Ja H dC (by rw[if_neg dC];exact .callE (shut_app H)))
theorem shut_prod:Ec t (body .prod):=.callE (shut_unary H)
theorem shut_sum:Ec t (body .sum):=.callE (shut_prod H)
theorem shut_cmp:Ec t (body .cmp):=.callE (shut_sum H)
theorem shut_and:Ec t (body .and):=.callE (shut_cmp H)
theorem shut_or:Ec t (body .or):=.callE (shut_and H)
theorem shut_item:Ec t (body .item):=by
 refine .look fun ok=>Ja H dC ?_
 rw[if_neg dC];refine shut_is H dC ?_;rw[if_neg dC];refine Ja H dC ?_;rw[if_neg dC];refine Ja H dC ?_;rw[if_neg dC];refine Ja H dC ?_;rw[if_neg dC];refine Ja H dC ?_;rw[if_neg dC];exact .callE (shut_or H)
theorem shut_seq:Ec t (body .seq):=.callE (shut_item H)
end
theorem Run.mayN{ts:List Tok}{i:Nat}{ok:Bool}{t:Tok}(ht:ts[i]?=some t){s:LB}(hb:isB t ok [s]=false){k:Bool→Cmd}{r:Rs}{st':St}(h:Run ts (k false) ⟨i,ok⟩ r st'):Run ts (Ed s k) ⟨i,ok⟩ r st' :=
 .look ht (by simp only;rw[hb,if_neg dC];exact h)
theorem Run.mustY{ts:List Tok}{i:Nat}{ok:Bool}{t:Tok}(ht:ts[i]?=some t){s:LB}(hb:isB t ok [s]=true){k:Cmd}{r:Rs}{st':St}(h:Run ts k ⟨i+1,ok⟩ r st'):Run ts (Ch s k) ⟨i,ok⟩ r st' :=
 .look ht (by simp only;rw[hb,if_pos rfl];exact .adv h)
theorem Wi{us:List Tok}{d e a b:Nat}{m m':Int}{x:Ad}{u:Tok}(h0:us[d]?=some ⟨7,a,[40],m⟩)(h1:us[d+1]?=some u)(hu:isB u true [[41]]=false)(hr:Run us (body .seq) ⟨d+1,true⟩ (.e x) ⟨e,true⟩)(h2:us[e]?=some ⟨7,b,[41],m'⟩):
  Run us (body .atom) ⟨d,true⟩ (.e x) ⟨e+1,true⟩:=by
 refine .look h0 ?_;simp only;rw[if_pos rF];refine .adv ?_;simp only;rw[if_neg dC,if_neg dC,if_neg dC,if_neg dC,if_neg dC,if_neg dC,if_neg dC];refine Run.mayN h1 hu ?_;rw[if_neg dC];exact .callE hr (.mustY h2 rF .retE)
theorem atom_run{ts us:List Tok}{d n:Nat}{x:Ad}(hE:Nl ts)(hE2:Nl us)(hlen:ts.length=n+1){a b:Nat}{m m':Int}(h0:us[d]?=some ⟨7,a,[40],m⟩)
  (hT:∀ (j:Nat) (q:Int) (a:Nat) (tx:LB) (n':Int),j<n→ts[j]?=some ⟨q,a,tx,n'⟩→∃ a',us[j+(d+1)]?=some ⟨q,a',tx,n'⟩)
  (hC:us[n+(d+1)]?=some ⟨7,b,[41],m'⟩) (hr:Run ts (body .seq) ⟨0,true⟩ (.e x) ⟨n,true⟩):∃ y,Ds x y∧Run us (body .atom) ⟨d,true⟩ (.e y) ⟨n+d+2,true⟩:=by
 have hT2:∀ (j:Nat) (q:Int) (a:Nat) (tx:LB) (n':Int),ts[j]?=some ⟨q,a,tx,n'⟩→(∃ a',us[j+(d+1)]?=some ⟨q,a',tx,n'⟩)∨(True∧q=0∧∃ a' n'',us[j+(d+1)]?=some ⟨7,a',[41],n''⟩):=fun j q a tx n' ht=>by
  have hj:=(List.getElem?_eq_some_iff.1 ht).1;by_cases h:j<n
  ·exact .inl (hT j q a tx n' h ht)
  ·have e:j=n:=by omega
   subst e;refine .inr ⟨trivial,?_,b,m',hC⟩;by_cases hq:q=0
   ·exact hq
   ·have:=hE j _ ht hq;omega
 obtain⟨r2,hR,hr2⟩:=hr.sim hE hE2 hT2 (crE .seq) (fun _=>rfl)
 cases hR with
 | @e _ y hS =>
  simp only[Nat.zero_add] at hr2;have hn:0<ts.length:=by omega
  obtain⟨t0,ht0⟩:=Bn hn;obtain⟨q,a0,tx,n0⟩:=t0
  have hnd:¬ Ec ⟨q,a0,tx,n0⟩ (body .seq):=fun hd=>by
   have:=hd _ _ _ _ _ ht0 hr;cases this
  have hq:q≠0:=fun h=>by subst h;exact hnd Wv
  have hns:isB ⟨q,a0,tx,n0⟩ true [[41]]=false:=by
   rw[Bool.eq_false_iff];intro hb;refine hnd (shut_seq ⟨?_,?_⟩)
   ·unfold isB at hb;simp at hb;exact hb.1
   ·unfold isB at hb;simp at hb;exact hb.2
  rcases hT2 _ _ _ _ _ ht0 with⟨a',h'⟩| ⟨_,h',_⟩
  ·rw[Nat.zero_add] at h';refine⟨y,hS,?_⟩;have:=Wi h0 h' hns hr2 hC;rw[show n+(d+1)+1=n+d+2 by omega] at this;exact this
  ·exact absurd h' hq
def Xu:Nat→NT
 | 0 => .seq|1 => .item|2 => .or|3 => .and|4 => .cmp|5 => .sum|6 => .prod|_ => .unary
def sgOf:Nat→List LB
 | 0=>[[59]] | 1=>[[58,61]] | 2=>[[124,124]] | 3=>[[38,38]] | 4=>[[61],[60]] | 5=>[[43],[45]] | 6=>[[42],[47],[37]] | _=>[]
structure Stop (u:Tok)(l:Nat):Prop where
 dot:isB u true [[46]]=false
 beg:Di u true=false
 lv:∀ L,l≤L→L<7→isB u true (sgOf L)=false
def Open(us:List Tok)(i:Nat):Prop:=∃ a m,us[i]?=some ⟨7,a,[40],m⟩
section
attribute [local go_sem ↓] Go.wp_at_zero Go.wp_at_succ
theorem PR.det{s:LB}{x x':Ad}{er er' a a':Int}(h:PR s x er a)(h':PR s x' er' a'):x'=x∧er'=er∧a'=a:=by
 have key:∀ {ts ts':List Tok} {x x':Ad} {st st':St} {t t':Tok},Es s = .ok ts→Run ts (body .seq) ⟨0,true⟩ (.e x) st→ts[st.i]?=some t→Es s = .ok ts'→Run ts' (body .seq) ⟨0,true⟩ (.e x') st'→ts'[st'.i]?=some t'→x'=x∧st'=st∧t'=t:=by
  intro ts ts' x x' st st' t t' hl hr ht hl' hr' ht';rw[hl] at hl';cases hl';obtain⟨e1,e2⟩:=hr.det hr';cases e1;cases e2;rw[ht] at ht';cases ht';exact⟨rfl,rfl,rfl⟩
 have bad:∀ {st:St} {t:Tok},(st.ok=false∨t.k≠0)→st.ok=true→t.k=0→False:=fun h h1 h2=>h.elim (fun h=>by rw[h] at h1;cases h1) (fun h=>h h2)
 cases h with
 | lexErr h =>
  cases h' with
  | lexErr h'=>rw[h] at h';cases h';exact⟨rfl,rfl,rfl⟩
  | syn hl=>rw[h] at hl;cases hl
  | many hl=>rw[h] at hl;cases hl
  | deep hl=>rw[h] at hl;cases hl
  | ok hl=>rw[h] at hl;cases hl
 | syn hl hr ht hbad =>
  cases h' with
  | lexErr h'=>rw[hl] at h';cases h'
  | syn hl' hr' ht' hbad'=>obtain⟨_,_,rfl⟩:=key hl hr ht hl' hr' ht';exact⟨rfl,rfl,rfl⟩
  | many hl' hr' ht' hok' hend'=>obtain⟨_,rfl,rfl⟩:=key hl hr ht hl' hr' ht';exact(bad hbad hok' hend').elim
  | deep hl' hr' ht' hok' hend'=>obtain⟨_,rfl,rfl⟩:=key hl hr ht hl' hr' ht';exact(bad hbad hok' hend').elim
  | ok hl' hr' ht' hok' hend'=>obtain⟨_,rfl,rfl⟩:=key hl hr ht hl' hr' ht';exact(bad hbad hok' hend').elim
 | many hl hr ht hok hend hm =>
  cases h' with
  | lexErr h'=>rw[hl] at h';cases h'
  | syn hl' hr' ht' hbad'=>obtain⟨_,rfl,rfl⟩:=key hl hr ht hl' hr' ht';exact(bad hbad' hok hend).elim
  | many hl' hr' ht' hok' hend' hm'=>exact⟨rfl,rfl,rfl⟩
  | deep hl' hr' ht' hok' hend' hm'=>obtain⟨rfl,_,_⟩:=key hl hr ht hl' hr' ht';omega
  | ok hl' hr' ht' hok' hend' hm'=>obtain⟨rfl,_,_⟩:=key hl hr ht hl' hr' ht';omega
 | deep hl hr ht hok hend hm hd =>
  cases h' with
  | lexErr h'=>rw[hl] at h';cases h'
  | syn hl' hr' ht' hbad'=>obtain⟨_,rfl,rfl⟩:=key hl hr ht hl' hr' ht';exact(bad hbad' hok hend).elim
  | many hl' hr' ht' hok' hend' hm'=>obtain⟨rfl,_,_⟩:=key hl hr ht hl' hr' ht';omega
  | deep hl' hr' ht' hok' hend' hm' hd'=>obtain⟨rfl,_,_⟩:=key hl hr ht hl' hr' ht';rw[hd] at hd';cases hd';exact⟨rfl,rfl,rfl⟩
  | ok hl' hr' ht' hok' hend' hm' hd'=>obtain⟨rfl,_,_⟩:=key hl hr ht hl' hr' ht';rw[hd] at hd';cases hd'
 | ok hl hr ht hok hend hm hd =>
  cases h' with
  | lexErr h'=>rw[hl] at h';cases h'
  | syn hl' hr' ht' hbad'=>obtain⟨_,rfl,rfl⟩:=key hl hr ht hl' hr' ht';exact(bad hbad' hok hend).elim
  | many hl' hr' ht' hok' hend' hm'=>obtain⟨rfl,_,_⟩:=key hl hr ht hl' hr' ht';omega
  | deep hl' hr' ht' hok' hend' hm' hd'=>obtain⟨rfl,_,_⟩:=key hl hr ht hl' hr' ht';rw[hd] at hd';cases hd'
  | ok hl' hr' ht' hok' hend' hm' hd'=>obtain⟨rfl,_,_⟩:=key hl hr ht hl' hr' ht';exact⟨rfl,rfl,rfl⟩
def varE(a:Int)(nm:LB):Ad:=.mk 1 a nm 0 [] [] [] []
end
theorem PR.sz{s:LB}{x:Ad}{er p:Int}(h:PR s x er p):szE x≤4096:=by
 have hz:szE .zero≤4096:=by decide
 cases h with
 | lexErr=>exact hz
 | syn=>exact hz
 | many=>exact hz
 | deep=>exact hz
 | ok hl hr ht hok hend hm hd=>exact hm
theorem Ak.fr{w w':World}{x:Ad}{cs:List Value}(h:Ak w (fun b=>b<w.heap.size) x cs)(f:Fr [] w w'):Ak w' (fun b=>b<w'.heap.size) x cs :=
 h.keep (Sh.of_fr f (fun b hb _=>⟨by have:=f.size;omega,fun x=>by cases x⟩))
theorem Ak.fr0{w w':World}{B:Nat}{x:Ad}{cs:List Value}(h:Ak w (fun b=>B≤b) x cs)(f:Fr [] w w'):Ak w' (fun b=>b<w'.heap.size) x cs :=
 h.keep (Sh.of_fr f (fun b _ hlt=>⟨by have:=f.size;omega,fun x=>by cases x⟩))
def IsX(La:List Sp)(x:Ad):Prop:=∃ ts,Nl ts∧ts.map Mq=La++[(0,[],0)]∧Run ts (body .seq) ⟨0,true⟩ (.e x) ⟨La.length,true⟩
def SA(La:List Sp):List Sp:=(7,[40],0)::(La++[(7,[41],0)])
theorem tokAt{us:List Tok}{P R:List Sp}{k:Int}{tx:LB}{n:Int}(h:us.map Mq=P++(k,tx,n)::R){d:Nat}(hd:d=P.length):∃ a,us[d]?=some ⟨k,a,tx,n⟩:=
 tok_of h (by subst hd;simp)
theorem blk{us:List Tok}{P La R:List Sp}{x:Ad}(hE2:Nl us)(h:us.map Mq=P++(SA La++R))(hX:IsX La x){d:Nat}(hd:d=P.length):∃ y,Ds x y∧Open us d∧Run us (body .atom) ⟨d,true⟩ (.e y) ⟨d+La.length+2,true⟩:=by
 obtain⟨ts,hE,hL,hr⟩:=hX;have hn:ts.length=La.length+1:=by simpa using congrArg List.length hL
 obtain⟨a0,h0⟩:=tokAt (P:=P) (k:=7) (tx:=[40]) (n:=0) (R:=La++(7,[41],0)::R) (by rw[h];simp[SA]) hd;obtain⟨a1,h1⟩:=tokAt (us:=us) (P:=P++(7,[40],0)::La) (k:=7) (tx:=[41]) (n:=0) (R:=R) (by rw[h];simp[SA]) (d:=La.length+(d+1)) sO
 obtain⟨y,hy,hry⟩:=atom_run hE hE2 hn h0 (fun j q a tx n' hj htj=>tok_of h (by
  have:=strip_of hL htj
  rw[List.getElem?_append_left hj] at this
  subst hd
  rw[List.getElem?_append_right oM,show j+(P.length+1)-P.length=j+1 by omega]
  unfold SA
  rw[Lp',List.getElem?_cons_succ,Ls',List.getElem?_append_left hj]
  exact this)) h1 hr
 rw[show La.length+d+2=d+La.length+2 by omega] at hry;exact⟨y,hy,⟨_,_,h0⟩,hry⟩
theorem Fu.symm{x y:Al}(h:Fu x y):Fu y x:=by
 induction h with
 | mk hl h ih=>exact .mk hl.symm (fun i x y hx hy=>ih i y x hy hx)
theorem Ds.symm{x y:Ad}(h:Ds x y):Ds y x:=by
 induction h with
 | mk hl h hl2 hp hx ih ih2=>exact .mk hl.symm (fun i x y hx hy=>ih i y x hy hx) hl2.symm (fun i p p' x y h1 h2=>(hp i p' p y x h2 h1).symm) (fun i p p' x y h1 h2=>ih2 i p' p y x h2 h1)
theorem mid{α:Type}{l m:List α}(h:l.length=m.length){i:Nat}{x:α}(hx:l[i]?=some x):∃ y,m[i]?=some y :=
 ⟨m[i]'(by have:=(List.getElem?_eq_some_iff.1 hx).1;omega),Lg' _⟩
theorem Fu.trans{x y:Al}(h:Fu x y):∀ {z:Al},Fu y z→Fu x z:=by
 induction h with
 | mk hl h ih =>
  intro z hz
  cases hz with
  | mk hl' h'=>exact .mk (hl.trans hl') (fun i x z hx hz=>by obtain⟨y,hy⟩:=mid hl hx;exact ih i x y hx hy (h' i y z hy hz))
theorem Ds.trans{x y:Ad}(h:Ds x y):∀ {z:Ad},Ds y z→Ds x z:=by
 induction h with
 | mk hl h hl2 hp hx ih ih2 =>
  intro z hz
  cases hz with
  | mk hl' h' hl2' hp' hx' =>
   exact .mk (hl.trans hl') (fun i x z hx hz=>by obtain⟨y,hy⟩:=mid hl hx;exact ih i x y hx hy (h' i y z hy hz)) (hl2.trans hl2')
    (fun i p q x z h1 h3=>by obtain⟨⟨r,y⟩,h2⟩:=mid hl2 h1;exact(hp i p r x y h1 h2).trans (hp' i r q y z h2 h3))
    (fun i p q x z h1 h3=>by obtain⟨⟨r,y⟩,h2⟩:=mid hl2 h1;exact ih2 i p r x y h1 h2 (hx' i r q y z h2 h3))
section
attribute [local go_sem ↓] Go.wp_at_zero Go.wp_at_succ
theorem Nv(s:ByteArray)(hs:s.size≤9223372036854775807)(w:World)(hV:E1 w):
  Calls prog 8 #[.string s] w fun e w'=>∃ (k a:Int) (nm:LB) (n:Int) (s':LB) (ls:List LB) (args:List Ad) (arms:List (Al×Ad)) (A5:Option Addr) (c5:Nat) (A6:Option Addr) (c6:Nat) (A7:Option Addr) (c7:Nat) (er at_:Int),
   e = .returned (.tuple #[.agg #[vI k,vI a,vS nm,vI n,vS s',.slice A5 ls.length c5,.slice A6 args.length c6,.slice A7 arms.length c7],vI er,vI at_])∧Ak w' (fun b=>b<w'.heap.size) (.mk k a nm n s' ls args arms) [vI k,vI a,vS nm,vI n,vS s',.slice A5 ls.length c5,.slice A6 args.length c6,.slice A7 arms.length c7]∧PR s.data.toList (.mk k a nm n s' ls args arms) er at_∧Fr [] w w':=by
 refine(Parse_any s hs w hV).mono ?_;rintro e w' ⟨k,a,nm,n,s',ls,args,arms,A5,n5,c5,A6,n6,c6,A7,n7,c7,er,at_,rfl,hx,hp,hf⟩
 have hl:n5=ls.length∧n6=args.length∧n7=arms.length:=by
  cases hx with
  | mk c5' c6' cp ce h5 e5 h6 e6 h7 e7 e8=>exact⟨h5.len,h6.len,h7.len⟩
 obtain⟨rfl,rfl,rfl⟩:=hl;exact⟨k,a,nm,n,s',ls,args,arms,A5,c5,A6,c6,A7,c7,er,at_,rfl,hx.keep (fun b _ hb=>⟨hb,rfl,hb⟩),hp,hf⟩
end
end Go.Proofs.YtlafbbnikgcdlaaGreatDoor
