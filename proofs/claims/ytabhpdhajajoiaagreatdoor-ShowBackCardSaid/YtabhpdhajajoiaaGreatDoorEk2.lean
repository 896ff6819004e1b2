/- A part of the proof: Yc, Yd, Xa, Xl, Hp, Xb. -/
import Derived.BigQuiet
import Derived.Deep.DrawnRows
import Derived.Deep.RegionHeld3
import Derived.Test.YtabhpdhajajoiaaGreatDoorEk1
namespace Go.Proofs.YtabhpdhajajoiaaGreatDoor
open Go.RowKit
open _root_.Go.Proofs.Tryz
set_option linter.all false
set_option maxHeartbeats 16000000
set_option maxRecDepth 100000
open List renaming length_cons→Lc',getElem?_eq_getElem→Lg'
open Nat renaming le_refl→Nr'
open Bool renaming and_eq_true→Ba'
section
attribute [local go_sem ↓] Go.wp_at_zero Go.wp_at_succ
def SQE(N:Nat):Prop:=∀ (k a:Int)(nm:LB)(n:Int)(s:LB)(ls:List LB)(args:List Ab)(arms:List (Ak×Ab))(A5 A6 A7:Option Addr)(cc5 cc6 cc7:Nat)(k' a':Int)(nm':LB)(n':Int)(s':LB)(ls':List LB)(args':List Ab)(arms':List (Ak×Ab))(A5' A6' A7':Option Addr)(cc5' cc6' cc7':Nat)(pl:Bool)(w:World)(ok ok':Nat→Prop),laE (.mk k a nm n s ls args arms)<N→laE (.mk k a nm n s ls args arms)≤1099511627776→laE (.mk k' a' nm' n' s' ls' args' arms')≤1099511627776 →
  Aj w ok (.mk k a nm n s ls args arms) [vI k,vI a,vS nm,vI n,vS s,.slice A5 ls.length cc5,.slice A6 args.length cc6,.slice A7 arms.length cc7]→Aj w ok' (.mk k' a' nm' n' s' ls' args' arms') [vI k',vI a',vS nm',vI n',vS s',.slice A5' ls'.length cc5',.slice A6' args'.length cc6',.slice A7' arms'.length cc7'] →
  Calls prog 19 #[.agg #[vI k,vI a,vS nm,vI n,vS s,.slice A5 ls.length cc5,.slice A6 args.length cc6,.slice A7 arms.length cc7],.agg #[vI k',vI a',vS nm',vI n',vS s',.slice A5' ls'.length cc5',.slice A6' args'.length cc6',.slice A7' arms'.length cc7'],.bool pl] w fun e w'=>e = .returned (.bool (eqE pl (.mk k a nm n s ls args arms) (.mk k' a' nm' n' s' ls' args' arms')))∧Fr [] w w'
theorem eqe_step(N:Nat)(ih:SQE N):SQE (N+1):=by
 intro k a nm n s ls args arms A5 A6 A7 cc5 cc6 cc7 k' a' nm' n' s' ls' args' arms' A5' A6' A7' cc5' cc6' cc7' pl w ok ok' hN hz hz' hx hy
 cases hx with
 | mk c5 c6 cp ce h5 e5 h6 e6 h7 e7 e8 =>
 cases hy with
 | mk d5 d6 dp de h5' e5' h6' e6' h7' e7' e8' =>
 have hsz:laE (.mk k a nm n s ls args arms)=1+ls.length+(D7 args+D6 arms):=by simp[laE]
 have hsz':laE (.mk k' a' nm' n' s' ls' args' arms')=1+ls'.length+(D7 args'+D6 arms'):=by simp[laE]
 rw[hsz] at hN hz;rw[hsz'] at hz';clear hsz hsz';have hm6:(args.length:Int)≤1099511627776:=by have:=Yo args;omega
 have hm6':(args'.length:Int)≤1099511627776:=by have:=Yo args';omega
 have hm7:(arms.length:Int)≤1099511627776:=by have:=Yn arms;omega
 have hm7':(arms'.length:Int)≤1099511627776:=by have:=Yn arms';omega
 have IH:=Hz ih;have H6:=Hz h6;have H6':=Hz h6';have E6:Hid (∀ (i:Nat) (x:Ab),args[i]?=some x→Aj w ok x (c6 i)):=Hz e6;have E6':Hid (∀ (i:Nat) (x:Ab),args'[i]?=some x→Aj w ok' x (d6 i)):=Hz e6';have H7:=Hz h7;have H7':=Hz h7';have E7:Hid (∀ (i:Nat) (p:Ak) (x:Ab),arms[i]?=some (p,x)→Bd w ok p (cp i)):=Hz e7;have E7':Hid (∀ (i:Nat) (p:Ak) (x:Ab),arms'[i]?=some (p,x)→Bd w ok' p (dp i)):=Hz e7';have E8:Hid (∀ (i:Nat) (p:Ak) (x:Ab),arms[i]?=some (p,x)→Aj w ok x (ce i)):=Hz e8;have E8':Hid (∀ (i:Nat) (p:Ak) (x:Ab),arms'[i]?=some (p,x)→Aj w ok' x (de i)):=Hz e8';have cT:=fun W (hW:Fr [] w W)=>Hz (textsB ls ls' (by omega) (by omega) A5 A5' cc5 cc5' W (h5.keep (ok':=ok) (Sh.of_fr hW (fun b hb _=>⟨hb,fun x=>by cases x⟩))) e5 (h5'.keep (ok':=ok') (Sh.of_fr hW (fun b hb _=>⟨hb,fun x=>by cases x⟩))) e5')
 clear ih h5 e5 h6 e6 h5' e5' h6' e6' h7 e7 e8 h7' e7' e8';have HO:=Hz (eqE_mk pl k a nm n s ls args arms k' a' nm' n' s' ls' args' arms')
 generalize eqE pl (.mk k a nm n s ls args arms) (.mk k' a' nm' n' s' ls' args' arms')=O at *
 generalize hQ:(ls==ls')=Q at *
 have HQ:=Hz hQ;clear hQ;by_cases t:k=k'
 rotate_left
 ·have z:(k != k')=true:=by rw[bne_iff_ne];exact t
  have zb:(k==k')=false:=by rw[bN];exact t
  have hO:=HO.out;simp[zb] at hO;subst hO;clear HO zb;go_enter func19,ntmps19;go_wp2_with fail;go_ret;exact⟨rfl,((Fr.refl [] w).alloc _).alloc _⟩
 subst t;have hpl:(pl=true∧a≠a')∨pl=false∨(pl=true∧a=a'):=by cases pl <;> by_cases e:a=a' <;> simp[e]
 rcases hpl with⟨rfl,t⟩| hpl
 ·have z:(a != a')=true:=by rw[bne_iff_ne];exact t
  have zb:(a==a')=false:=by rw[bN];exact t
  have hO:=HO.out;simp[zb] at hO;subst hO;clear HO zb;go_enter func19,ntmps19;go_wp2_with fail;go_ret;exact⟨rfl,((Fr.refl [] w).alloc _).alloc _⟩
 obtain⟨pl0,hp0⟩:∃ b:Bool,b=pl:=⟨_,rfl⟩
 rcases hpl with rfl|⟨rfl,rfl⟩
 all_goals
  by_cases t:nm=nm'
  rotate_left
  ·have z:(nm==nm')=false:=by rw[bN];exact t
   have zb:=z;have hO:=HO.out;simp[zb] at hO;subst hO;clear HO zb;go_enter func19,ntmps19;go_wp2_with fail;go_ret;exact⟨rfl,((Fr.refl [] w).alloc _).alloc _⟩
  subst t;by_cases t:n=n'
  rotate_left
  ·have z:(n != n')=true:=by rw[bne_iff_ne];exact t
   have zb:(n==n')=false:=by rw[bN];exact t
   have hO:=HO.out;simp[zb] at hO;subst hO;clear HO zb;go_enter func19,ntmps19;go_wp2_with fail;go_ret;exact⟨rfl,((Fr.refl [] w).alloc _).alloc _⟩
  subst t;by_cases t:s=s'
  rotate_left
  ·have z:(s==s')=false:=by rw[bN];exact t
   have zb:=z;have hO:=HO.out;simp[zb] at hO;subst hO;clear HO zb;go_enter func19,ntmps19;go_wp2_with fail;go_ret;exact⟨rfl,((Fr.refl [] w).alloc _).alloc _⟩
  subst t;cases Q
  ·have hO:=HO.out;simp at hO;subst hO;clear HO;go_enter func19,ntmps19;go_wp2_with fail;refine(cT _ (((Fr.refl [] w).alloc _).alloc _)).out.mono ?_;rintro e w1 ⟨rfl,f1⟩;go_wp2_with fail;go_ret;exact⟨rfl,(((Fr.refl [] w).alloc _).alloc _).trans f1⟩
  obtain rfl:ls=ls':=by have:=HQ.out;simpa using this
  clear HQ;by_cases t:args.length=args'.length
  rotate_left
  ·have z:((args.length:Int)!=(args'.length:Int))=true:=by rw[bne_iff_ne];omega
   have zb:(args.length==args'.length)=false:=by rw[bN];exact t
   have hO:=HO.out;simp[zb] at hO;subst hO;clear HO zb;go_enter func19,ntmps19;go_wp2_with fail;refine(cT _ (((Fr.refl [] w).alloc _).alloc _)).out.mono ?_;rintro e w1 ⟨rfl,f1⟩;have q3:=f1.keep (Af (Ad w _) _) nE;have q4:=f1.keep (Ad (w.alloc _) _) nE;rw[Nr] at q4;have hT2:w.heap.size+2≤w1.heap.size:=by have:=f1.size;simp at this;omega
   have t6:=Ae q3 6;have t6':=Ae q4 6;go_wp2_with fail;go_ret;exact⟨rfl,(((Fr.refl [] w).alloc _).alloc _).trans f1⟩
  by_cases tm:arms.length=arms'.length
  rotate_left
  ·have z:((arms.length:Int)!=(arms'.length:Int))=true:=by rw[bne_iff_ne];omega
   have zb:(arms.length==arms'.length)=false:=by rw[bN];exact tm
   have hO:=HO.out;simp[zb] at hO;subst hO;clear HO zb;go_enter func19,ntmps19;go_wp2_with fail;refine(cT _ (((Fr.refl [] w).alloc _).alloc _)).out.mono ?_;rintro e w1 ⟨rfl,f1⟩;have q3:=f1.keep (Af (Ad w _) _) nE;have q4:=f1.keep (Ad (w.alloc _) _) nE;rw[Nr] at q4;have hT2:w.heap.size+2≤w1.heap.size:=by have:=f1.size;simp at this;omega
   rw[← t] at q4;have t6:=Ae q3 6;have t6':=Ae q4 6;have t7:=Ae q3 7;have t7':=Ae q4 7;go_wp2_with fail;go_ret;exact⟨rfl,(((Fr.refl [] w).alloc _).alloc _).trans f1⟩
  have HO1:Hid (O=(Lv pl0 (args.drop 0) (args'.drop 0)&&Km pl0 arms arms')):=Hz (by have:=HO.out;rw[hp0];simpa [t,tm] using this);have HTL:=Hz t;have HP0:=Hz hp0;rw[← t] at H6';have HTM:=Hz tm;rw[← tm] at H7';clear t HO hp0 tm;go_enter func19,ntmps19;go_wp2_with fail;refine(cT _ (((Fr.refl [] w).alloc _).alloc _)).out.mono ?_;rintro e w1 ⟨rfl,f1⟩;have q3:=f1.keep (Af (Ad w _) _) nE;have q4:=f1.keep (Ad (w.alloc _) _) nE;rw[Nr] at q4;have hT2:w.heap.size+2≤w1.heap.size:=by have:=f1.size;simp at this;omega
  rw[← HTL.out,← HTM.out] at q4;have f:=(((Fr.refl [] w).alloc _).alloc _).trans f1;clear f1 cT;have t6:=Ae q3 6;have t6':=Ae q4 6;have t7:=Ae q3 7;have t7':=Ae q4 7;go_wp2_with fail;clear t6 t6' t7 t7'
  go_loopw [7] (fun iv wq=>∃ i:Nat,iv=vI i∧i≤args.length∧Fr [] w1 wq∧Hid (O=(Lv pl0 (args.drop i) (args'.drop i)&&Km pl0 arms arms'))) (fun iv wq=>args.length-(intOf iv).toNat)
  case atStart=>exact⟨0,rfl,by omega,Fr.refl _ _,HO1⟩
  case round =>
   obtain⟨i,rfl,hi,fr,HI⟩:=hrel;have q3:=fr.keep q3 nE;have q4:=fr.keep q4 nE;have f:=f.trans fr;have hTw:w.heap.size+2≤wr.heap.size:=Nat.le_trans hT2 fr.size
   generalize hT:w.heap.size=T at *
   have t6:=Ae q3 6;have t6':=Ae q4 6;by_cases hlt:i<args.length
   ·obtain⟨g,og,rfl,_,hg,_,_,hc⟩:=H6.out.row hlt;obtain⟨g',og',rfl,_,hg',_,_,hc'⟩:=H6'.out.row hlt
    obtain⟨x,hx⟩:∃ x,args[i]?=some x:=⟨args[i],Lg' hlt⟩
    obtain⟨y,hy⟩:∃ y,args'[i]?=some y:=⟨args'[i]'(by rw[← HTL.out];exact hlt),Lg' _⟩
    have hI:=HI.out;rw[eqEs_at hx hy] at hI;have hxx:=E6.out i x hx;have hyy:=E6'.out i y hy;have hzx:=Uz hx;have hzy:=Uz hy;clear hx hy HI
    generalize c6 i=ci at *
    generalize d6 i=di at *
    have hxxw:=fun W (hW:Fr [] wr W)=>hxx.keep (w':=W) (ok':=ok) (Sh.of_fr (f.trans hW) (fun b hb _=>⟨hb,fun x=>by cases x⟩))
    have hyyw:=fun W (hW:Fr [] wr W)=>hyy.keep (w':=W) (ok':=ok') (Sh.of_fr (f.trans hW) (fun b hb _=>⟨hb,fun x=>by cases x⟩))
    cases hxx with
    | @mk k2 a2 nm2 n2 s2 ls2 args2 arms2 v5 v6 v7 _ _ _ _ r5 _ r6 _ r7 _ _ =>
    obtain⟨A52,cc52,rfl⟩:=r5.form;obtain⟨A62,cc62,rfl⟩:=r6.form;obtain⟨A72,cc72,rfl⟩:=r7.form;clear r5 r6 r7
    cases hyy with
    | @mk k2' a2' nm2' n2' s2' ls2' args2' arms2' v5 v6 v7 _ _ _ _ r5 _ r6 _ r7 _ _ =>
    obtain⟨A52',cc52',rfl⟩:=r5.form;obtain⟨A62',cc62',rfl⟩:=r6.form;obtain⟨A72',cc72',rfl⟩:=r7.form;clear r5 r6 r7;have HC:=Hz hc;have HC':=Hz hc';clear hc hc';have cX:=fun W (hW:Fr [] wr W)=>Hz (IH.out k2 a2 nm2 n2 s2 ls2 args2 arms2 A52 A62 A72 cc52 cc62 cc72 k2' a2' nm2' n2' s2' ls2' args2' arms2' A52' A62' A72' cc52' cc62' cc72' pl0 W ok ok' (by omega) (by omega) (by omega) (hxxw W hW) (hyyw W hW))
    generalize eqE pl0 (.mk k2 a2 nm2 n2 s2 ls2 args2 arms2) (.mk k2' a2' nm2' n2' s2' ls2' args2' arms2')=bX at *
    simp only[HP0.out] at cX;have HJ:=Hz hI;clear hI hxxw hyyw hzx hzy;have q1:(0:Int)≤(i:Int):=by omega
    have q2:(i:Int)<(args.length:Int):=by omega
    obtain⟨x0,x1,x2,x3,x4,x5,x6,x7⟩:=Pe hg (f) HC.out;obtain⟨y0,y1,y2,y3,y4,y5,y6,y7⟩:=Pe hg' (f) HC'.out;cases bX
    all_goals
     go_wp2_with fail
     go_region_held3 (fun w'=>w'.cell? ⟨T,6,none⟩=some (.slice (some ⟨g,og,none⟩) args.length cc6)∧w'.cell? ⟨T+1,6,none⟩=some (.slice (some ⟨g',og',none⟩) args.length cc6')∧(w'.cell? ⟨g,og+i * 8,none⟩=some (vI k2)∧w'.cell? ⟨g,og+i * 8+1,none⟩=some (vI a2)∧w'.cell? ⟨g,og+i * 8+2,none⟩=some (vS nm2)∧w'.cell? ⟨g,og+i * 8+3,none⟩=some (vI n2)∧w'.cell? ⟨g,og+i * 8+4,none⟩=some (vS s2)∧w'.cell? ⟨g,og+i * 8+5,none⟩=some (.slice A52 ls2.length cc52)∧w'.cell? ⟨g,og+i * 8+6,none⟩=some (.slice A62 args2.length cc62)∧w'.cell? ⟨g,og+i * 8+7,none⟩=some (.slice A72 arms2.length cc72))∧(w'.cell? ⟨g',og'+i * 8,none⟩=some (vI k2')∧w'.cell? ⟨g',og'+i * 8+1,none⟩=some (vI a2')∧w'.cell? ⟨g',og'+i * 8+2,none⟩=some (vS nm2')∧w'.cell? ⟨g',og'+i * 8+3,none⟩=some (vI n2')∧w'.cell? ⟨g',og'+i * 8+4,none⟩=some (vS s2')∧w'.cell? ⟨g',og'+i * 8+5,none⟩=some (.slice A52' ls2'.length cc52')∧w'.cell? ⟨g',og'+i * 8+6,none⟩=some (.slice A62' args2'.length cc62')∧w'.cell? ⟨g',og'+i * 8+7,none⟩=some (.slice A72' arms2'.length cc72'))) (first|go_keep|exact⟨t6,t6',⟨x0,x1,x2,x3,x4,x5,x6,x7⟩,⟨y0,y1,y2,y3,y4,y5,y6,y7⟩⟩) (((with_reducible refine(cX _ ((Fr.refl [] wr).drew)).out.mono ?_);rintro e w3 ⟨rfl,f3⟩;have t6:=Ae ((((Fr.refl [] wr).drew).trans f3).keep q3 nE) 6;have t6':=Ae ((((Fr.refl [] wr).drew).trans f3).keep q4 nE) 6;obtain⟨x0,x1,x2,x3,x4,x5,x6,x7⟩:=Pe hg (f.trans (((Fr.refl [] wr).drew).trans f3)) HC.out;obtain⟨y0,y1,y2,y3,y4,y5,y6,y7⟩:=Pe hg' (f.trans (((Fr.refl [] wr).drew).trans f3)) HC'.out))
     go_wp2_with fail
    ·have hO:=HJ.out;simp at hO;subst hO;go_ret;exact⟨rfl,f.trans (((Fr.refl [] wr).drew).trans f3)⟩
    ·go_roundw
     case rel=>exact⟨i+1,by simp,by omega,fr.trans (((Fr.refl [] wr).drew).trans f3),Hz (by have:=HJ.out;simpa using this)⟩
     case measure=>simp[intOf];omega
   ·have ei:i=args.length:=by omega
    subst ei;have HO2:Hid (O=Km pl0 (arms.drop 0) (arms'.drop 0)):=Hz (by have:=HI.out;rw[eqEs_end (Nr' _)] at this;simpa using this);clear HI;have t7:=Ae q3 7;have t7':=Ae q4 7;go_wp2_with fail;clear t6 t6' t7 t7' hlt hi
    have hw5:∃ w5,w5=wr:=⟨_,rfl⟩
    obtain⟨w5,hw5⟩:=hw5;subst hw5;subst hT;have hT2:=hTw;clear fr hTw
    go_loopw [8] (fun iv wq=>∃ i:Nat,iv=vI i∧i≤arms.length∧Fr [] w5 wq∧Hid (O=(Km pl0 (arms.drop i) (arms'.drop i)))) (fun iv wq=>arms.length-(intOf iv).toNat)
    case atStart=>exact⟨0,rfl,by omega,Fr.refl _ _,HO2⟩
    case round =>
     obtain⟨i,rfl,hi,fr,HI⟩:=hrel;have q3:=fr.keep q3 nE;have q4:=fr.keep q4 nE;have f:=f.trans fr;have hTw:w.heap.size+2≤wr.heap.size:=Nat.le_trans hT2 fr.size
     generalize hT:w.heap.size=T at *
     have t6:=Ae q3 7;have t6':=Ae q4 7;by_cases hlt:i<arms.length
     ·obtain⟨g,og,rfl,_,hg,_,_,hc⟩:=H7.out.row hlt;obtain⟨g',og',rfl,_,hg',_,_,hc'⟩:=H7'.out.row hlt
      obtain⟨p,x,hx⟩:∃ p x,arms[i]?=some (p,x):=⟨(arms[i]).1,(arms[i]).2,Lg' hlt⟩
      obtain⟨p',y,hy⟩:∃ p' y,arms'[i]?=some (p',y):=⟨(arms'[i]'(by rw[← HTM.out];exact hlt)).1,(arms'[i]'(by rw[← HTM.out];exact hlt)).2,Lg' _⟩
      have hI:=HI.out;rw[eqAs_at hx hy] at hI;have hxx:=E8.out i p x hx;have hyy:=E8'.out i p' y hy;have hpp:=E7.out i p x hx;have hpp':=E7'.out i p' y hy;have hzx:=Uy hx;have hzy:=Uy hy;clear hx hy HI
      try dsimp only at hc hc'
      generalize cp i=cpi at *
      generalize dp i=dpi at *
      generalize ce i=ci at *
      generalize de i=di at *
      have hxxw:=fun W (hW:Fr [] wr W)=>hxx.keep (w':=W) (ok':=ok) (Sh.of_fr (f.trans hW) (fun b hb _=>⟨hb,fun x=>by cases x⟩))
      have hyyw:=fun W (hW:Fr [] wr W)=>hyy.keep (w':=W) (ok':=ok') (Sh.of_fr (f.trans hW) (fun b hb _=>⟨hb,fun x=>by cases x⟩))
      have hppw:=fun W (hW:Fr [] wr W)=>hpp.keep (w':=W) (ok':=ok) (Sh.of_fr (f.trans hW) (fun b hb _=>⟨hb,fun x=>by cases x⟩))
      have hpp'w:=fun W (hW:Fr [] wr W)=>hpp'.keep (w':=W) (ok':=ok') (Sh.of_fr (f.trans hW) (fun b hb _=>⟨hb,fun x=>by cases x⟩))
      cases hxx with
      | @mk k2 a2 nm2 n2 s2 ls2 args2 arms2 v5 v6 v7 _ _ _ _ r5 _ r6 _ r7 _ _ =>
      obtain⟨A52,cc52,rfl⟩:=r5.form;obtain⟨A62,cc62,rfl⟩:=r6.form;obtain⟨A72,cc72,rfl⟩:=r7.form;clear r5 r6 r7
      cases hyy with
      | @mk k2' a2' nm2' n2' s2' ls2' args2' arms2' v5 v6 v7 _ _ _ _ r5 _ r6 _ r7 _ _ =>
      obtain⟨A52',cc52',rfl⟩:=r5.form;obtain⟨A62',cc62',rfl⟩:=r6.form;obtain⟨A72',cc72',rfl⟩:=r7.form;clear r5 r6 r7
      cases hpp with
      | @mk k3 a3 nm3 n3 s3 ls3 args3 v5 v6 _ _ r5 _ r6 _ =>
      obtain⟨A53,cc53,rfl⟩:=r5.form;obtain⟨A63,cc63,rfl⟩:=r6.form;clear r5 r6
      cases hpp' with
      | @mk k3' a3' nm3' n3' s3' ls3' args3' v5 v6 _ _ r5 _ r6 _ =>
      obtain⟨A53',cc53',rfl⟩:=r5.form;obtain⟨A63',cc63',rfl⟩:=r6.form;clear r5 r6;have HC:=Hz hc;have HC':=Hz hc';clear hc hc';have cX:=fun W (hW:Fr [] wr W)=>Hz (IH.out k2 a2 nm2 n2 s2 ls2 args2 arms2 A52 A62 A72 cc52 cc62 cc72 k2' a2' nm2' n2' s2' ls2' args2' arms2' A52' A62' A72' cc52' cc62' cc72' pl0 W ok ok' (by omega) (by omega) (by omega) (hxxw W hW) (hyyw W hW))
      have cP:=fun W (hW:Fr [] wr W)=>Hz (So (laP (.mk k3 a3 nm3 n3 s3 ls3 args3)+1) k3 a3 nm3 n3 s3 ls3 args3 A53 A63 cc53 cc63 k3' a3' nm3' n3' s3' ls3' args3' A53' A63' cc53' cc63' pl0 W ok ok' (by omega) (by omega) (by omega) (hppw W hW) (hpp'w W hW))
      generalize eqE pl0 (.mk k2 a2 nm2 n2 s2 ls2 args2 arms2) (.mk k2' a2' nm2' n2' s2' ls2' args2' arms2')=bX at *
      generalize eqP pl0 (.mk k3 a3 nm3 n3 s3 ls3 args3) (.mk k3' a3' nm3' n3' s3' ls3' args3')=bP at *
      simp only[HP0.out] at cX cP;have HJ:=Hz hI;clear hI hxxw hyyw hzx hzy hppw hpp'w;have q1:(0:Int)≤(i:Int):=by omega
      have q2:(i:Int)<(arms.length:Int):=by omega
      obtain⟨x0,x1,x2,x3,x4,x5,x6,x7,x8,x9,x10,x11,x12,x13,x14⟩:=Fh hg (f) HC.out;obtain⟨y0,y1,y2,y3,y4,y5,y6,y7,y8,y9,y10,y11,y12,y13,y14⟩:=Fh hg' (f) HC'.out;cases bP
      ·go_wp2_with fail;refine wp_region_held_drew (S:=(fun w'=>w'.cell? ⟨T,7,none⟩=some (.slice (some ⟨g,og,none⟩) arms.length cc7)∧w'.cell? ⟨T+1,7,none⟩=some (.slice (some ⟨g',og',none⟩) arms.length cc7')∧(w'.cell? ⟨g,og+i * 15,none⟩=some (vI k3)∧w'.cell? ⟨g,og+i * 15+1,none⟩=some (vI a3)∧w'.cell? ⟨g,og+i * 15+2,none⟩=some (vS nm3)∧w'.cell? ⟨g,og+i * 15+3,none⟩=some (vI n3)∧w'.cell? ⟨g,og+i * 15+4,none⟩=some (vS s3)∧w'.cell? ⟨g,og+i * 15+5,none⟩=some (.slice A53 ls3.length cc53)∧w'.cell? ⟨g,og+i * 15+6,none⟩=some (.slice A63 args3.length cc63)∧w'.cell? ⟨g,og+i * 15+7,none⟩=some (vI k2)∧w'.cell? ⟨g,og+i * 15+8,none⟩=some (vI a2)∧w'.cell? ⟨g,og+i * 15+9,none⟩=some (vS nm2)∧w'.cell? ⟨g,og+i * 15+10,none⟩=some (vI n2)∧w'.cell? ⟨g,og+i * 15+11,none⟩=some (vS s2)∧w'.cell? ⟨g,og+i * 15+12,none⟩=some (.slice A52 ls2.length cc52)∧w'.cell? ⟨g,og+i * 15+13,none⟩=some (.slice A62 args2.length cc62)∧w'.cell? ⟨g,og+i * 15+14,none⟩=some (.slice A72 arms2.length cc72))∧(w'.cell? ⟨g',og'+i * 15,none⟩=some (vI k3')∧w'.cell? ⟨g',og'+i * 15+1,none⟩=some (vI a3')∧w'.cell? ⟨g',og'+i * 15+2,none⟩=some (vS nm3')∧w'.cell? ⟨g',og'+i * 15+3,none⟩=some (vI n3')∧w'.cell? ⟨g',og'+i * 15+4,none⟩=some (vS s3')∧w'.cell? ⟨g',og'+i * 15+5,none⟩=some (.slice A53' ls3'.length cc53')∧w'.cell? ⟨g',og'+i * 15+6,none⟩=some (.slice A63' args3'.length cc63')∧w'.cell? ⟨g',og'+i * 15+7,none⟩=some (vI k2')∧w'.cell? ⟨g',og'+i * 15+8,none⟩=some (vI a2')∧w'.cell? ⟨g',og'+i * 15+9,none⟩=some (vS nm2')∧w'.cell? ⟨g',og'+i * 15+10,none⟩=some (vI n2')∧w'.cell? ⟨g',og'+i * 15+11,none⟩=some (vS s2')∧w'.cell? ⟨g',og'+i * 15+12,none⟩=some (.slice A52' ls2'.length cc52')∧w'.cell? ⟨g',og'+i * 15+13,none⟩=some (.slice A62' args2'.length cc62')∧w'.cell? ⟨g',og'+i * 15+14,none⟩=some (.slice A72' arms2'.length cc72')))) (by kernel_rfl) ?_ (fun hHeld=>?_)
       ·exact⟨t6,t6',⟨x0,x1,x2,x3,x4,x5,x6,x7,x8,x9,x10,x11,x12,x13,x14⟩,⟨y0,y1,y2,y3,y4,y5,y6,y7,y8,y9,y10,y11,y12,y13,y14⟩⟩
       refine wpAnyH_take (i:=0) (oi:={ dst:=some 98,op:=_,type:=_,pos:=_,after:=_,guard:=_ }) (v:=?_) rfl (by kernel_rfl) (by kernel_rfl) (by kernel_rfl) (fun _ _ _ h=>h) (Or.inl ⟨by rfl,?_⟩) (by assumption) ?_
       rotate_left
       ·intro w hSw;(try dsimp only at hSw);go_simp;(try with_reducible rfl)
       try simp only[Act.put,sX]
       refine wpAnyH_take (i:=1) (oi:={ dst:=some 99,op:=_,type:=_,pos:=_,after:=_,guard:=_ }) (v:=?_) rfl (by kernel_rfl) (by kernel_rfl) (by kernel_rfl) (fun _ _ _ h=>h) (Or.inl ⟨by rfl,?_⟩) (by assumption) ?_
       rotate_left
       ·intro w hSw;(try dsimp only at hSw);go_simp;(try with_reducible rfl)
       try simp only[Act.put,sX]
       refine wpAnyH_take (i:=2) (oi:={ dst:=some 100,op:=_,type:=_,pos:=_,after:=_,guard:=_ }) (v:=?_) rfl (by kernel_rfl) (by kernel_rfl) (by kernel_rfl) (fun _ _ _ h=>h) (Or.inl ⟨by rfl,?_⟩) (by assumption) ?_
       rotate_left
       ·intro w hSw;(try dsimp only at hSw);go_simp;(try with_reducible rfl)
       try simp only[Act.put,sX]
       refine wpAnyH_take (i:=3) (oi:={ dst:=some 101,op:=_,type:=_,pos:=_,after:=_,guard:=_ }) (v:=?_) rfl (by kernel_rfl) (by kernel_rfl) (by kernel_rfl) (fun _ _ _ h=>h) (Or.inl ⟨by rfl,?_⟩) (by assumption) ?_
       rotate_left
       ·intro w hSw;(try dsimp only at hSw);go_simp;(try with_reducible rfl)
       try simp only[Act.put,sX]
       refine wpAnyH_take (i:=4) (oi:={ dst:=some 102,op:=_,type:=_,pos:=_,after:=_,guard:=_ }) (v:=?_) rfl (by kernel_rfl) (by kernel_rfl) (by kernel_rfl) (fun _ _ _ h=>h) (Or.inl ⟨by rfl,?_⟩) (by assumption) ?_
       rotate_left
       ·intro w hSw;(try dsimp only at hSw);go_simp;(try with_reducible rfl)
       try simp only[Act.put,sX]
       refine wpAnyH_take (i:=5) (oi:={ dst:=some 103,op:=_,type:=_,pos:=_,after:=_,guard:=_ }) (v:=?_) rfl (by kernel_rfl) (by kernel_rfl) (by kernel_rfl) (fun _ _ _ h=>h) (Or.inl ⟨by rfl,?_⟩) (by assumption) ?_
       rotate_left
       ·intro w hSw;(try dsimp only at hSw);go_simp;(try with_reducible rfl)
       try simp only[Act.put,sX]
       refine wpAnyH_take (i:=6) (oi:={ dst:=some 104,op:=_,type:=_,pos:=_,after:=_,guard:=_ }) (v:=?_) rfl (by kernel_rfl) (by kernel_rfl) (by kernel_rfl) (fun _ _ _ h=>h) (Or.inl ⟨by rfl,?_⟩) (by assumption) ?_
       rotate_left
       ·intro w hSw;(try dsimp only at hSw);go_simp;(try with_reducible rfl)
       try simp only[Act.put,sX]
       refine wpAnyH_take (i:=7) (oi:={ dst:=some 105,op:=_,type:=_,pos:=_,after:=_,guard:=_ }) (v:=?_) rfl (by kernel_rfl) (by kernel_rfl) (by kernel_rfl) (fun _ _ _ h=>h) (Or.inl ⟨by rfl,?_⟩) (by assumption) ?_
       rotate_left
       ·intro w hSw;(try dsimp only at hSw);go_simp;(try with_reducible rfl)
       try simp only[Act.put,sX]
       refine wpAnyH_take (i:=8) (oi:={ dst:=some 106,op:=_,type:=_,pos:=_,after:=_,guard:=_ }) (v:=?_) rfl (by kernel_rfl) (by kernel_rfl) (by kernel_rfl) (fun _ _ _ h=>h) (Or.inl ⟨by rfl,?_⟩) (by assumption) ?_
       rotate_left
       ·intro w hSw;(try dsimp only at hSw);go_simp;(try with_reducible rfl)
       try simp only[Act.put,sX]
       refine wpAnyH_take (i:=9) (oi:={ dst:=some 107,op:=_,type:=_,pos:=_,after:=_,guard:=_ }) (v:=?_) rfl (by kernel_rfl) (by kernel_rfl) (by kernel_rfl) (fun _ _ _ h=>h) (Or.inl ⟨by rfl,?_⟩) (by assumption) ?_
       rotate_left
       ·intro w hSw;(try dsimp only at hSw);go_simp;(try with_reducible rfl)
       try simp only[Act.put,sX]
       refine wpAnyH_take (i:=10) (oi:={ dst:=some 108,op:=_,type:=_,pos:=_,after:=_,guard:=_ }) (v:=?_) rfl (by kernel_rfl) (by kernel_rfl) (by kernel_rfl) (fun _ _ _ h=>h) (Or.inl ⟨by rfl,?_⟩) (by assumption) ?_
       rotate_left
       ·intro w hSw;(try dsimp only at hSw);go_simp;(try with_reducible rfl)
       try simp only[Act.put,sX]
       refine wpAnyH_take (i:=11) (oi:={ dst:=some 109,op:=_,type:=_,pos:=_,after:=_,guard:=_ }) (v:=?_) rfl (by kernel_rfl) (by kernel_rfl) (by kernel_rfl) (fun _ _ _ h=>h) (Or.inl ⟨by rfl,?_⟩) (by assumption) ?_
       rotate_left
       ·intro w hSw;(try dsimp only at hSw);go_simp;(try with_reducible rfl)
       try simp only[Act.put,sX]
       refine wpAnyH_take (i:=12) (oi:={ dst:=some 110,op:=_,type:=_,pos:=_,after:=_,guard:=_ }) (v:=?_) rfl (by kernel_rfl) (by kernel_rfl) (by kernel_rfl) (fun _ _ _ h=>h) (Or.inl ⟨by rfl,?_⟩) (by assumption) ?_
       rotate_left
       ·intro w hSw;(try dsimp only at hSw);go_simp;(try with_reducible rfl)
       try simp only[Act.put,sX]
       refine wpAnyH_ready (rs:=[13]) (by kernel_rfl) (by simp) ?_;refine AllReadyH.cons (o:={ dst:=some 111,op:=_,type:=_,pos:=_,after:=_,guard:=_ }) rfl (fun K hK=>?_) AllReadyH.nil;go_simp;(with_reducible refine(cP _ ((Fr.refl [] wr).drew)).out.mono ?_);rintro e w3 ⟨rfl,f3⟩;have t6:=Ae ((((Fr.refl [] wr).drew).trans f3).keep q3 nE) 7;have t6':=Ae ((((Fr.refl [] wr).drew).trans f3).keep q4 nE) 7;obtain⟨x0,x1,x2,x3,x4,x5,x6,x7,x8,x9,x10,x11,x12,x13,x14⟩:=Fh hg (f.trans (((Fr.refl [] wr).drew).trans f3)) HC.out;obtain⟨y0,y1,y2,y3,y4,y5,y6,y7,y8,y9,y10,y11,y12,y13,y14⟩:=Fh hg' (f.trans (((Fr.refl [] wr).drew).trans f3)) HC'.out;go_simp;refine hK.out _ _ ?_ (fun hHeld=>?_)
       ·exact⟨t6,t6',⟨x0,x1,x2,x3,x4,x5,x6,x7,x8,x9,x10,x11,x12,x13,x14⟩,⟨y0,y1,y2,y3,y4,y5,y6,y7,y8,y9,y10,y11,y12,y13,y14⟩⟩
       clear hK K
       try simp only[Act.put,sX]
       refine wpAnyH_take (i:=14) (oi:={ dst:=some 112,op:=_,type:=_,pos:=_,after:=_,guard:=_ }) (v:=?_) rfl (by kernel_rfl) (by kernel_rfl) (by kernel_rfl) (fun _ _ _ h=>h) (Or.inl ⟨by rfl,?_⟩) (by assumption) ?_
       rotate_left
       ·intro w hSw;(try dsimp only at hSw);go_simp;(try with_reducible rfl)
       try simp only[Act.put,sX]
       refine wpAnyH_take (i:=15) (oi:={ dst:=some 113,op:=_,type:=_,pos:=_,after:=_,guard:=_ }) (v:=?_) rfl (by kernel_rfl) (by kernel_rfl) (by kernel_rfl) (fun _ _ _ h=>h) (Or.inl ⟨by rfl,?_⟩) (by assumption) ?_
       rotate_left
       ·intro w hSw;(try dsimp only at hSw);go_simp;(try with_reducible rfl)
       try simp only[Act.put,sX]
       refine wpAnyH_take (i:=16) (oi:={ dst:=some 114,op:=_,type:=_,pos:=_,after:=_,guard:=_ }) (v:=_) rfl (by kernel_rfl) (by kernel_rfl) (by kernel_rfl) (fun _ _ _ h=>h) (Or.inr ⟨by rfl,rfl⟩) (by assumption) ?_
       try simp only[Act.put,sX]
       refine wpAnyH_take (i:=17) (oi:={ dst:=some 115,op:=_,type:=_,pos:=_,after:=_,guard:=_ }) (v:=_) rfl (by kernel_rfl) (by kernel_rfl) (by kernel_rfl) (fun _ _ _ h=>h) (Or.inr ⟨by rfl,rfl⟩) (by assumption) ?_
       try simp only[Act.put,sX]
       refine wpAnyH_take (i:=18) (oi:={ dst:=some 116,op:=_,type:=_,pos:=_,after:=_,guard:=_ }) (v:=_) rfl (by kernel_rfl) (by kernel_rfl) (by kernel_rfl) (fun _ _ _ h=>h) (Or.inr ⟨by rfl,rfl⟩) (by assumption) ?_
       try simp only[Act.put,sX]
       refine wpAnyH_take (i:=19) (oi:={ dst:=some 117,op:=_,type:=_,pos:=_,after:=_,guard:=_ }) (v:=_) rfl (by kernel_rfl) (by kernel_rfl) (by kernel_rfl) (fun _ _ _ h=>h) (Or.inr ⟨by rfl,rfl⟩) (by assumption) ?_
       try simp only[Act.put,sX]
       refine wpAnyH_take (i:=20) (oi:={ dst:=some 118,op:=_,type:=_,pos:=_,after:=_,guard:=_ }) (v:=_) rfl (by kernel_rfl) (by kernel_rfl) (by kernel_rfl) (fun _ _ _ h=>h) (Or.inr ⟨by rfl,rfl⟩) (by assumption) ?_
       try simp only[Act.put,sX]
       refine wpAnyH_take (i:=21) (oi:={ dst:=some 119,op:=_,type:=_,pos:=_,after:=_,guard:=_ }) (v:=_) rfl (by kernel_rfl) (by kernel_rfl) (by kernel_rfl) (fun _ _ _ h=>h) (Or.inr ⟨by rfl,rfl⟩) (by assumption) ?_
       try simp only[Act.put,sX]
       refine wpAnyH_take (i:=22) (oi:={ dst:=some 120,op:=_,type:=_,pos:=_,after:=_,guard:=_ }) (v:=_) rfl (by kernel_rfl) (by kernel_rfl) (by kernel_rfl) (fun _ _ _ h=>h) (Or.inr ⟨by rfl,rfl⟩) (by assumption) ?_
       try simp only[Act.put,sX]
       refine wpAnyH_take (i:=23) (oi:={ dst:=some 121,op:=_,type:=_,pos:=_,after:=_,guard:=_ }) (v:=_) rfl (by kernel_rfl) (by kernel_rfl) (by kernel_rfl) (fun _ _ _ h=>h) (Or.inr ⟨by rfl,rfl⟩) (by assumption) ?_
       try simp only[Act.put,sX]
       refine wpAnyH_take (i:=24) (oi:={ dst:=some 122,op:=_,type:=_,pos:=_,after:=_,guard:=_ }) (v:=_) rfl (by kernel_rfl) (by kernel_rfl) (by kernel_rfl) (fun _ _ _ h=>h) (Or.inr ⟨by rfl,rfl⟩) (by assumption) ?_
       try simp only[Act.put,sX]
       refine wpAnyH_take (i:=25) (oi:={ dst:=some 123,op:=_,type:=_,pos:=_,after:=_,guard:=_ }) (v:=_) rfl (by kernel_rfl) (by kernel_rfl) (by kernel_rfl) (fun _ _ _ h=>h) (Or.inr ⟨by rfl,rfl⟩) (by assumption) ?_
       try simp only[Act.put,sX]
       refine wpAnyH_take (i:=26) (oi:={ dst:=some 124,op:=_,type:=_,pos:=_,after:=_,guard:=_ }) (v:=_) rfl (by kernel_rfl) (by kernel_rfl) (by kernel_rfl) (fun _ _ _ h=>h) (Or.inr ⟨by rfl,rfl⟩) (by assumption) ?_
       try simp only[Act.put,sX]
       refine wpAnyH_take (i:=27) (oi:={ dst:=some 125,op:=_,type:=_,pos:=_,after:=_,guard:=_ }) (v:=_) rfl (by kernel_rfl) (by kernel_rfl) (by kernel_rfl) (fun _ _ _ h=>h) (Or.inr ⟨by rfl,rfl⟩) (by assumption) ?_
       try simp only[Act.put,sX]
       refine wpAnyH_take (i:=28) (oi:={ dst:=some 126,op:=_,type:=_,pos:=_,after:=_,guard:=_ }) (v:=_) rfl (by kernel_rfl) (by kernel_rfl) (by kernel_rfl) (fun _ _ _ h=>h) (Or.inr ⟨by rfl,rfl⟩) (by assumption) ?_
       try simp only[Act.put,sX]
       refine wpAnyH_take (i:=29) (oi:={ dst:=some 127,op:=_,type:=_,pos:=_,after:=_,guard:=_ }) (v:=_) rfl (by kernel_rfl) (by kernel_rfl) (by kernel_rfl) (fun _ _ _ h=>h) (Or.inr ⟨by rfl,rfl⟩) (by assumption) ?_
       try simp only[Act.put,sX]
       refine wpAnyH_take (i:=30) (oi:={ dst:=some 128,op:=_,type:=_,pos:=_,after:=_,guard:=_ }) (v:=_) rfl (by kernel_rfl) (by kernel_rfl) (by kernel_rfl) (fun _ _ _ h=>h) (Or.inr ⟨by rfl,rfl⟩) (by assumption) ?_
       try simp only[Act.put,sX]
       refine wpAnyH_take (i:=31) (oi:={ dst:=some 129,op:=_,type:=_,pos:=_,after:=_,guard:=_ }) (v:=?_) rfl (by kernel_rfl) (by kernel_rfl) (by kernel_rfl) (fun _ _ _ h=>h) (Or.inl ⟨by rfl,?_⟩) (by assumption) ?_
       rotate_left
       ·intro w hSw;(try dsimp only at hSw);go_simp;(try with_reducible rfl)
       try simp only[Act.put,sX]
       refine wpAnyH_done (by kernel_rfl) ?_ _;go_wp2_with fail;have hO:=HJ.out;simp at hO;subst hO;go_ret;exact⟨rfl,f.trans (((Fr.refl [] wr).drew).trans f3)⟩
      cases bX
      all_goals
       go_wp2_with fail
       go_region_held3 (fun w'=>w'.cell? ⟨T,7,none⟩=some (.slice (some ⟨g,og,none⟩) arms.length cc7)∧w'.cell? ⟨T+1,7,none⟩=some (.slice (some ⟨g',og',none⟩) arms.length cc7')∧(w'.cell? ⟨g,og+i * 15,none⟩=some (vI k3)∧w'.cell? ⟨g,og+i * 15+1,none⟩=some (vI a3)∧w'.cell? ⟨g,og+i * 15+2,none⟩=some (vS nm3)∧w'.cell? ⟨g,og+i * 15+3,none⟩=some (vI n3)∧w'.cell? ⟨g,og+i * 15+4,none⟩=some (vS s3)∧w'.cell? ⟨g,og+i * 15+5,none⟩=some (.slice A53 ls3.length cc53)∧w'.cell? ⟨g,og+i * 15+6,none⟩=some (.slice A63 args3.length cc63)∧w'.cell? ⟨g,og+i * 15+7,none⟩=some (vI k2)∧w'.cell? ⟨g,og+i * 15+8,none⟩=some (vI a2)∧w'.cell? ⟨g,og+i * 15+9,none⟩=some (vS nm2)∧w'.cell? ⟨g,og+i * 15+10,none⟩=some (vI n2)∧w'.cell? ⟨g,og+i * 15+11,none⟩=some (vS s2)∧w'.cell? ⟨g,og+i * 15+12,none⟩=some (.slice A52 ls2.length cc52)∧w'.cell? ⟨g,og+i * 15+13,none⟩=some (.slice A62 args2.length cc62)∧w'.cell? ⟨g,og+i * 15+14,none⟩=some (.slice A72 arms2.length cc72))∧(w'.cell? ⟨g',og'+i * 15,none⟩=some (vI k3')∧w'.cell? ⟨g',og'+i * 15+1,none⟩=some (vI a3')∧w'.cell? ⟨g',og'+i * 15+2,none⟩=some (vS nm3')∧w'.cell? ⟨g',og'+i * 15+3,none⟩=some (vI n3')∧w'.cell? ⟨g',og'+i * 15+4,none⟩=some (vS s3')∧w'.cell? ⟨g',og'+i * 15+5,none⟩=some (.slice A53' ls3'.length cc53')∧w'.cell? ⟨g',og'+i * 15+6,none⟩=some (.slice A63' args3'.length cc63')∧w'.cell? ⟨g',og'+i * 15+7,none⟩=some (vI k2')∧w'.cell? ⟨g',og'+i * 15+8,none⟩=some (vI a2')∧w'.cell? ⟨g',og'+i * 15+9,none⟩=some (vS nm2')∧w'.cell? ⟨g',og'+i * 15+10,none⟩=some (vI n2')∧w'.cell? ⟨g',og'+i * 15+11,none⟩=some (vS s2')∧w'.cell? ⟨g',og'+i * 15+12,none⟩=some (.slice A52' ls2'.length cc52')∧w'.cell? ⟨g',og'+i * 15+13,none⟩=some (.slice A62' args2'.length cc62')∧w'.cell? ⟨g',og'+i * 15+14,none⟩=some (.slice A72' arms2'.length cc72'))) (first|go_keep|exact⟨t6,t6',⟨x0,x1,x2,x3,x4,x5,x6,x7,x8,x9,x10,x11,x12,x13,x14⟩,⟨y0,y1,y2,y3,y4,y5,y6,y7,y8,y9,y10,y11,y12,y13,y14⟩⟩) ((first|((with_reducible refine(cP _ ((Fr.refl [] wr).drew)).out.mono ?_);rintro e w3 ⟨rfl,f3⟩;have t6:=Ae ((((Fr.refl [] wr).drew).trans f3).keep q3 nE) 7;have t6':=Ae ((((Fr.refl [] wr).drew).trans f3).keep q4 nE) 7;obtain⟨x0,x1,x2,x3,x4,x5,x6,x7,x8,x9,x10,x11,x12,x13,x14⟩:=Fh hg (f.trans (((Fr.refl [] wr).drew).trans f3)) HC.out;obtain⟨y0,y1,y2,y3,y4,y5,y6,y7,y8,y9,y10,y11,y12,y13,y14⟩:=Fh hg' (f.trans (((Fr.refl [] wr).drew).trans f3)) HC'.out)| ((with_reducible refine(cX _ (((Fr.refl [] wr).drew).trans f3)).out.mono ?_);rintro e w4 ⟨rfl,f4⟩;have t6:=Ae (((((Fr.refl [] wr).drew).trans f3).trans f4).keep q3 nE) 7;have t6':=Ae (((((Fr.refl [] wr).drew).trans f3).trans f4).keep q4 nE) 7;obtain⟨x0,x1,x2,x3,x4,x5,x6,x7,x8,x9,x10,x11,x12,x13,x14⟩:=Fh hg (f.trans ((((Fr.refl [] wr).drew).trans f3).trans f4)) HC.out;obtain⟨y0,y1,y2,y3,y4,y5,y6,y7,y8,y9,y10,y11,y12,y13,y14⟩:=Fh hg' (f.trans ((((Fr.refl [] wr).drew).trans f3).trans f4)) HC'.out)))
       go_wp2_with fail
      ·have hO:=HJ.out;simp at hO;subst hO;go_ret;exact⟨rfl,f.trans ((((Fr.refl [] wr).drew).trans f3).trans f4)⟩
      ·go_roundw
       case rel=>exact⟨i+1,by simp,by omega,fr.trans ((((Fr.refl [] wr).drew).trans f3).trans f4),Hz (by have:=HJ.out;simpa using this)⟩
       case measure=>simp[intOf];omega
     ·have ei:i=arms.length:=by omega
      subst ei;have hO:=HI.out;rw[eqAs_end (Nr' _)] at hO;subst hO;go_wp2_with fail;go_ret;exact⟨rfl,f⟩
theorem Oi:∀ N,SQE N
 | 0=>by intro _ _ _ _ _ _ _ _ _ _ _ _ _ _ _ _ _ _ _ _ _ _ _ _ _ _ _ _ _ _ _ _ h;exact absurd h (Nat.not_lt_zero _)
 | N+1=>eqe_step N (Oi N)
end
theorem Ui{pl:Bool}:∀ {l m:List Ab},Lv pl l m=true↔∀ (i:Nat)(x y:Ab),l[i]?=some x→m[i]?=some y→eqE pl x y=true
 | [],m=>⟨fun _ i x y h=>by simp at h,fun _=>by rw[Lv]⟩
 | x::l,[]=>⟨fun _ i x y _ h=>by simp at h,fun _=>by rw[Lv]⟩
 | x::l,y::m=>by
  rw[Lv,Ba',Ui];constructor
  ·rintro⟨h1,h2⟩ i u v hu hv
   cases i with
   | zero=>cases hu;cases hv;exact h1
   | succ i=>exact h2 i u v (by simpa using hu) (by simpa using hv)
  ·intro h;exact⟨h 0 x y rfl rfl,fun i u v hu hv=>h (i+1) u v (by simpa using hu) (by simpa using hv)⟩
theorem Uh{pl:Bool}:∀ {l m:List (Ak×Ab)},Km pl l m=true↔∀ (i:Nat)(p q:Ak)(x y:Ab),l[i]?=some (p,x)→m[i]?=some (q,y)→eqP pl p q=true∧eqE pl x y=true
 | [],m=>⟨fun _ i p q x y h=>by simp at h,fun _=>by rw[Km]⟩
 | x::l,[]=>⟨fun _ i p q x y _ h=>by simp at h,fun _=>by rw[Km]⟩
 | (p,x)::l,(q,y)::m=>by
  rw[Km,eqA,Ba',Ba',Uh];constructor
  ·rintro⟨h1,h2⟩ i u1 v1 u v hu hv
   cases i with
   | zero=>cases hu;cases hv;exact h1
   | succ i=>exact h2 i u1 v1 u v (by simpa using hu) (by simpa using hv)
  ·intro h;exact⟨h 0 p q x y rfl rfl,fun i u1 v1 u v hu hv=>h (i+1) u1 v1 u v (by simpa using hu) (by simpa using hv)⟩
theorem Jj:∀ (N:Nat)(x y:Ab),szE x<N→(eqE false x y=true↔Bl x y)
 | 0,_,_,h=>absurd h (Nat.not_lt_zero _)
 | N+1,.mk k a nm n s ls args arms,.mk k' a' nm' n' s' ls' args' arms',h=>by
  have hs:szE (.mk k a nm n s ls args arms)=1+(B1 args+Cd arms):=by simp[szE]
  rw[eqE_mk];simp only[Ba',Ui,Uh,beq_iff_eq,Bool.not_false,Bool.true_or,and_true];constructor
  ·rintro⟨⟨⟨⟨⟨⟨⟨⟨rfl,rfl⟩,rfl⟩,rfl⟩,rfl⟩,hl⟩,hl2⟩,hh⟩,hm⟩;exact .mk hl (fun i u v hu hv=>(Jj N u v (by have:=Et hu;omega)).1 (hh i u v hu hv)) hl2 (fun i p q u v hu hv=>(Jk _ p q (Nat.lt_succ_self _)).1 (hm i p q u v hu hv).1) (fun i p q u v hu hv=>(Jj N u v (by have:=Fd hu;omega)).1 (hm i p q u v hu hv).2)
  ·intro hh
   cases hh with
   | mk hl hh hl2 hp hx=>exact⟨⟨⟨⟨⟨⟨⟨⟨rfl,rfl⟩,rfl⟩,rfl⟩,rfl⟩,hl⟩,hl2⟩,fun i u v hu hv=>(Jj N u v (by have:=Et hu;omega)).2 (hh i u v hu hv)⟩,fun i p q u v hu hv=>⟨(Jk _ p q (Nat.lt_succ_self _)).2 (hp i p q u v hu hv),(Jj N u v (by have:=Fd hu;omega)).2 (hx i p q u v hu hv)⟩⟩
theorem Sn(x y:Ab):eqE false x y=true↔Bl x y:=Jj _ x y (Nat.lt_succ_self _)
section
attribute [local go_sem ↓] Go.wp_at_zero Go.wp_at_succ
theorem J3(s:ByteArray)(hs:s.size≤9223372036854775807)(w:World)(hV:Dx w):
  Calls prog 18 #[.string s] w fun e w'=>∃ (k a:Int) (nm:LB) (n:Int) (s':LB) (ls:List LB) (args:List Ab) (arms:List (Ak×Ab)) (A5:Option Addr) (c5:Nat) (A6:Option Addr) (c6:Nat) (A7:Option Addr) (c7:Nat) (er at_:Int),
   e = .returned (.tuple #[.agg #[vI k,vI a,vS nm,vI n,vS s',.slice A5 ls.length c5,.slice A6 args.length c6,.slice A7 arms.length c7],vI er,vI at_])∧Aj w' (fun b=>b<w'.heap.size) (.mk k a nm n s' ls args arms) [vI k,vI a,vS nm,vI n,vS s',.slice A5 ls.length c5,.slice A6 args.length c6,.slice A7 arms.length c7]∧PR s.data.toList (.mk k a nm n s' ls args arms) er at_∧Fr [] w w':=by
 refine(Q3 s hs w hV).mono ?_;rintro e w' ⟨k,a,nm,n,s',ls,args,arms,A5,n5,c5,A6,n6,c6,A7,n7,c7,er,at_,rfl,hx,hp,hf⟩
 have hl:n5=ls.length∧n6=args.length∧n7=arms.length:=by
  cases hx with
  | mk c5' c6' cp ce h5 e5 h6 e6 h7 e7 e8=>exact⟨h5.len,h6.len,h7.len⟩
 obtain⟨rfl,rfl,rfl⟩:=hl;exact⟨k,a,nm,n,s',ls,args,arms,A5,c5,A6,c6,A7,c7,er,at_,rfl,hx.keep (fun b _ hb=>⟨hb,rfl,hb⟩),hp,hf⟩
def LPC(N:Nat):Prop:=∀ (k a:Int)(nm:LB)(n:Int)(s:LB)(ls:List LB)(args:List Ak)(A5 A6:Option Addr)(c5 c6:Nat)(left:Int)(w:World)(ok:Nat→Prop),szP (.mk k a nm n s ls args)<N→WtP (.mk k a nm n s ls args)→Bd w ok (.mk k a nm n s ls args) [vI k,vI a,vS nm,vI n,vS s,.slice A5 ls.length c5,.slice A6 args.length c6]→-4503599627370496≤left→left≤65536 →
  Calls prog 13 #[.agg #[vI k,vI a,vS nm,vI n,vS s,.slice A5 ls.length c5,.slice A6 args.length c6],vI left] w fun e w'=>e = .returned (vI (Dd (.mk k a nm n s ls args) left))∧Fr [] w w'
theorem Xc(N:Nat)(ih:LPC N):LPC (N+1):=by
 intro k a nm n s ls args A5 A6 c5 c6 left w ok hN hW hx hlo hhi
 cases hW with
 | mk hk h1 h2 h3 h4 h5' h6' =>
 cases hx with
 | mk d5 d6 h5 e5 h6 e6 =>
 rw[show szP (.mk k a nm n s ls args)=1+Ey args by simp[szP]] at hN;have HN:=Hz hN;have IH:=Hz ih;have H5:=Hz h5;have H6:=Hz h6;have E5:Hid (∀ (i:Nat) (x:LB),ls[i]?=some x→d5 i=Of x):=Hz e5;have E6:Hid (∀ (i:Nat) (x:Ak),args[i]?=some x→Bd w ok x (d6 i)):=Hz e6;have H4:=Hz h4;have HW6:Hid (∀ (i:Nat) (x:Ak),args[i]?=some x→WtP x):=Hz h6';have b1:(nm.length:Int)≤140737488351232:=by unfold reachBytes at h1;omega
 have b2:(s.length:Int)≤140737488351232:=by unfold reachBytes at h2;omega
 have b3:(ls.length:Int)≤140737488351232:=by unfold reachBytes at h3;omega
 have b4:(args.length:Int)≤140737488351232:=by unfold reachBytes at h5';omega
 obtain⟨R,hR⟩:∃ R,Dd (.mk k a nm n s ls args) left=R:=⟨_,rfl⟩
 rw[hR];have HR:Hid (Dh (args.drop 0) (Cj (ls.drop 0) (left-(nm.length+s.length+1)))=R):=Hz (by rw[← hR,Dd];rfl);have f0:=(Fr.refl [] w).alloc (.cells #[vI k,vI a,vS nm,vI n,vS s,.slice A5 ls.length c5,.slice A6 args.length c6] 25);have q0:=Ad w (.cells #[vI k,vI a,vS nm,vI n,vS s,.slice A5 ls.length c5,.slice A6 args.length c6] 25);clear hN ih h5 e5 h6 e6 h1 h2 h3 h4 h5' h6' hk hR;go_enter func13,ntmps13;go_wp2_with fail
 generalize w.alloc (.cells #[vI k,vI a,vS nm,vI n,vS s,.slice A5 ls.length c5,.slice A6 args.length c6] 25)=x at *
 generalize hT:w.heap.size=T at *
 go_loopw [1,5] (fun lv iv wr=>∃ (i:Nat) (L:Int),lv=vI L∧iv=vI i∧i≤ls.length∧-9007199254740992≤L∧L≤65536∧Hid (Dh (args.drop 0) (Cj (ls.drop i) L)=R)∧wr=x) (fun lv iv wr=>ls.length-(intOf iv).toNat)
 case atStart=>exact⟨0,_,rfl,rfl,by omega,by omega,by omega,HR,rfl⟩
 case round =>
  obtain⟨i,L,rfl,rfl,hi,hl1,hl2,HI,rfl⟩:=hrel;clear HR;obtain⟨⟨l0,l1,l2,l3,l4,l5,l6⟩,_⟩:=Aq q0;have q1:(0:Int)≤(i:Int):=by omega
  by_cases hlt:i<ls.length∧0<L
  ·obtain⟨hlt,hL⟩:=hlt
   obtain⟨y,hy⟩:∃ y,ls[i]?=some y:=⟨ls[i],Lg' hlt⟩
   obtain⟨g,og,rfl,_,hg,_,_,hc⟩:=H5.out.row hlt;rw[E5.out i y hy] at hc;have x0:wr.cell? ⟨g,og+i,none⟩=some (vS y):=(f0.cell (p:=⟨g,og+i,none⟩) hg (fun x=>by cases x)).trans (by have:=hc 0 _ rfl;simpa using this);have hyl:(y.length:Int)≤140737488351232:=by have:=H4.out i y hy;unfold reachBytes at this;omega
   have hI:=HI.out;rw[Rl hy L hL] at hI;have HJ:=Hz hI;clear hc hy hI HI;have q2:(i:Int)<(ls.length:Int):=by omega
   go_wp2_with fail
   go_roundw
   case rel=>exact⟨i+1,_,rfl,by simp,by omega,by omega,by omega,HJ,(by first|rfl|trivial)⟩
   case measure=>simp[intOf];omega
  ·have HQ:Hid (Dh (args.drop 0) L=R):=Hz (by
    have:=HI.out
    by_cases h:i<ls.length
    ·rwa [Lg _ _ (by omega)] at this
    ·rwa [List.drop_eq_nil_of_le (show ls.length≤i by omega)] at this)
   clear HI;have hcc:¬ (i:Int)<(ls.length:Int)∨((i:Int)<(ls.length:Int)∧¬ 0<L):=by omega
   clear hlt
   rcases hcc with h1|⟨h1,h2⟩
   all_goals
    go_wp2_with fail
    try clear h2
    clear h1 q1 l0 l1 l2 l3 l4 l5 l6 hi
    have hw5:∃ w5,w5=wr:=⟨_,rfl⟩
    obtain⟨w5,hw5⟩:=hw5;subst hw5
    go_loopw [1,6] (fun lv iv wq=>∃ (i:Nat) (L:Int),lv=vI L∧iv=vI i∧i≤args.length∧L≤65536∧Hid (Dh (args.drop i) L=R)∧Fr [] w5 wq) (fun lv iv wq=>args.length-(intOf iv).toNat)
    case atStart=>exact⟨0,L,rfl,rfl,by omega,hl2,HQ,Fr.refl _ _⟩
    case round =>
     obtain⟨i,L,rfl,rfl,hi,hl2,HI,fr⟩:=hrel;clear HQ;have q1:(0:Int)≤(i:Int):=by omega
     have q3:=fr.keep q0 nE;obtain⟨⟨l0,l1,l2,l3,l4,l5,l6⟩,_⟩:=Aq q3;by_cases hlt:i<args.length∧0<L
     ·obtain⟨hlt,hL⟩:=hlt
      obtain⟨y,hy⟩:∃ y,args[i]?=some y:=⟨args[i],Lg' hlt⟩
      obtain⟨g,og,rfl,_,hg,_,_,hc⟩:=H6.out.row hlt;have hI:=HI.out;rw[longPs_at hy L hL] at hI;have hyy:=E6.out i y hy;have hwy:=HW6.out i y hy;have hzy:=Gz hy;have hle:=Is y L
      generalize d6 i=di at *
      have hyw:=hyy.keep (w':=wr) (ok':=ok) (Sh.of_fr (f0.trans fr) (fun b hb _=>⟨hb,fun x=>by cases x⟩))
      cases hyy with
      | @mk k2 a2 nm2 n2 s2 ls2 args2 v5 v6 _ _ r5 _ r6 _ =>
      obtain⟨A52,cc52,rfl⟩:=r5.form;obtain⟨A62,cc62,rfl⟩:=r6.form;clear r5 r6;have cX:=Hz (IH.out k2 a2 nm2 n2 s2 ls2 args2 A52 A62 cc52 cc62 L wr ok (by have:=HN.out;omega) hwy hyw (by omega) hl2);obtain⟨x0,x1,x2,x3,x4,x5,x6⟩:=Vs hg (f0.trans fr) hc;have HJ:=Hz hI
      generalize Dd (.mk k2 a2 nm2 n2 s2 ls2 args2) L=L2 at *
      clear hc hy hI HI hwy hyw hzy;have q2:(i:Int)<(args.length:Int):=by omega
      go_wp2_with fail;refine cX.out.mono ?_;rintro e w6 ⟨rfl,f6⟩;go_wp2_with fail
      go_roundw
      case rel=>exact⟨i+1,_,rfl,by simp,by omega,by omega,HJ,fr.trans f6⟩
      case measure=>simp[intOf];omega
     ·have hQ:L=R:=by
       have:=HI.out;by_cases h:i<args.length
       ·rwa [Pv _ _ (by omega)] at this
       ·rwa [List.drop_eq_nil_of_le (show args.length≤i by omega)] at this
      subst hQ;clear HI;have hcc:¬ (i:Int)<(args.length:Int)∨((i:Int)<(args.length:Int)∧¬ 0<L):=by omega
      clear hlt
      rcases hcc with h1|⟨h1,h2⟩
      all_goals
       go_wp2_with fail;go_ret;exact⟨rfl,f0.trans fr⟩
theorem Mu:∀ N,LPC N
 | 0=>by intro _ _ _ _ _ _ _ _ _ _ _ _ _ _ h;exact absurd h (Nat.not_lt_zero _)
 | N+1=>Xc N (Mu N)
def LEC(N:Nat):Prop:=∀ (k a:Int)(nm:LB)(n:Int)(s:LB)(ls:List LB)(args:List Ab)(arms:List (Ak×Ab))(A5 A6 A7:Option Addr)(c5 c6 c7:Nat)(left:Int)(w:World)(ok:Nat→Prop),szE (.mk k a nm n s ls args arms)<N→WtE (.mk k a nm n s ls args arms)→Aj w ok (.mk k a nm n s ls args arms) [vI k,vI a,vS nm,vI n,vS s,.slice A5 ls.length c5,.slice A6 args.length c6,.slice A7 arms.length c7]→-4503599627370496≤left→left≤65536 →
  Calls prog 16 #[.agg #[vI k,vI a,vS nm,vI n,vS s,.slice A5 ls.length c5,.slice A6 args.length c6,.slice A7 arms.length c7],vI left] w fun e w'=>e = .returned (vI (Dq (.mk k a nm n s ls args arms) left))∧Fr [] w w'
theorem Xa(N:Nat)(ih:LEC N):LEC (N+1):=by
 intro k a nm n s ls args arms A5 A6 A7 c5 c6 c7 left w ok hN hW hx hlo hhi
 cases hW with
 | mk hk h1 h2 h3 h4 h5' h6' h7' h8' h9' =>
 cases hx with
 | mk d5 d6 dp de h5 e5 h6 e6 h7 e7 e8 =>
 rw[show szE (.mk k a nm n s ls args arms)=1+(B1 args+Cd arms) by simp[szE]] at hN;have HN:=Hz hN;have IH:=Hz ih;have H5:=Hz h5;have H6:=Hz h6;have H7:=Hz h7;have E5:Hid (∀ (i:Nat) (x:LB),ls[i]?=some x→d5 i=Of x):=Hz e5;have E6:Hid (∀ (i:Nat) (x:Ab),args[i]?=some x→Aj w ok x (d6 i)):=Hz e6;have E7:Hid (∀ (i:Nat) (p:Ak) (x:Ab),arms[i]?=some (p,x)→Bd w ok p (dp i)):=Hz e7;have E8:Hid (∀ (i:Nat) (p:Ak) (x:Ab),arms[i]?=some (p,x)→Aj w ok x (de i)):=Hz e8;have H4:=Hz h4;have HW6:Hid (∀ (i:Nat) (x:Ab),args[i]?=some x→WtE x):=Hz h6';have HW8:=Hz h8';have HW9:=Hz h9';have b1:(nm.length:Int)≤140737488351232:=by unfold reachBytes at h1;omega
 have b2:(s.length:Int)≤140737488351232:=by unfold reachBytes at h2;omega
 have b3:(ls.length:Int)≤140737488351232:=by unfold reachBytes at h3;omega
 have b4:(args.length:Int)≤140737488351232:=by unfold reachBytes at h5';omega
 have b5:(arms.length:Int)≤140737488351232:=by unfold reachBytes at h7';omega
 obtain⟨R,hR⟩:∃ R,Dq (.mk k a nm n s ls args arms) left=R:=⟨_,rfl⟩
 rw[hR];have HR:Hid (Dt (arms.drop 0) (Dg (args.drop 0) (Cj (ls.drop 0) (left-(nm.length+s.length+1))))=R):=Hz (by rw[← hR,Dq];rfl);have f0:=(Fr.refl [] w).alloc (.cells #[vI k,vI a,vS nm,vI n,vS s,.slice A5 ls.length c5,.slice A6 args.length c6,.slice A7 arms.length c7] 35);have q0:=Ad w (.cells #[vI k,vI a,vS nm,vI n,vS s,.slice A5 ls.length c5,.slice A6 args.length c6,.slice A7 arms.length c7] 35);clear hN ih h5 e5 h6 e6 h7 e7 e8 h1 h2 h3 h4 h5' h6' h7' h8' h9' hk hR;go_enter func16,ntmps16;go_wp2_with fail
 generalize w.alloc (.cells #[vI k,vI a,vS nm,vI n,vS s,.slice A5 ls.length c5,.slice A6 args.length c6,.slice A7 arms.length c7] 35)=x at *
 generalize hT:w.heap.size=T at *
 go_loopw [1,5] (fun lv iv wr=>∃ (i:Nat) (L:Int),lv=vI L∧iv=vI i∧i≤ls.length∧-9007199254740992≤L∧L≤65536∧Hid (Dt (arms.drop 0) (Dg (args.drop 0) (Cj (ls.drop i) L))=R)∧wr=x) (fun lv iv wr=>ls.length-(intOf iv).toNat)
 case atStart=>exact⟨0,_,rfl,rfl,by omega,by omega,by omega,HR,rfl⟩
 case round =>
  obtain⟨i,L,rfl,rfl,hi,hl1,hl2,HI,rfl⟩:=hrel;clear HR;obtain⟨⟨l0,l1,l2,l3,l4,l5,l6,l7⟩,_⟩:=Ac q0;have q1:(0:Int)≤(i:Int):=by omega
  by_cases hlt:i<ls.length∧0<L
  ·obtain⟨hlt,hL⟩:=hlt
   obtain⟨y,hy⟩:∃ y,ls[i]?=some y:=⟨ls[i],Lg' hlt⟩
   obtain⟨g,og,rfl,_,hg,_,_,hc⟩:=H5.out.row hlt;rw[E5.out i y hy] at hc;have x0:wr.cell? ⟨g,og+i,none⟩=some (vS y):=(f0.cell (p:=⟨g,og+i,none⟩) hg (fun x=>by cases x)).trans (by have:=hc 0 _ rfl;simpa using this);have hyl:(y.length:Int)≤140737488351232:=by have:=H4.out i y hy;unfold reachBytes at this;omega
   have hI:=HI.out;rw[Rl hy L hL] at hI;have HJ:=Hz hI;clear hc hy hI HI;have q2:(i:Int)<(ls.length:Int):=by omega
   go_wp2_with fail
   go_roundw
   case rel=>exact⟨i+1,_,rfl,by simp,by omega,by omega,by omega,HJ,(by first|rfl|trivial)⟩
   case measure=>simp[intOf];omega
  ·have HQ:Hid (Dt (arms.drop 0) (Dg (args.drop 0) L)=R):=Hz (by
    have:=HI.out
    by_cases h:i<ls.length
    ·rwa [Lg _ _ (by omega)] at this
    ·rwa [List.drop_eq_nil_of_le (show ls.length≤i by omega)] at this)
   clear HI;have hcc:¬ (i:Int)<(ls.length:Int)∨((i:Int)<(ls.length:Int)∧¬ 0<L):=by omega
   clear hlt
   rcases hcc with h1|⟨h1,h2⟩
   all_goals
    go_wp2_with fail
    try clear h2
    clear h1 q1 l0 l1 l2 l3 l4 l5 l6 l7 hi
    have hw5:∃ w5,w5=wr:=⟨_,rfl⟩
    obtain⟨w5,hw5⟩:=hw5;subst hw5
    go_loopw [1,6] (fun lv iv wq=>∃ (i:Nat) (L:Int),lv=vI L∧iv=vI i∧i≤args.length∧L≤65536∧Hid (Dt (arms.drop 0) (Dg (args.drop i) L)=R)∧Fr [] w5 wq) (fun lv iv wq=>args.length-(intOf iv).toNat)
    case atStart=>exact⟨0,L,rfl,rfl,by omega,hl2,HQ,Fr.refl _ _⟩
    case round =>
     obtain⟨i,L,rfl,rfl,hi,hl2,HI,fr⟩:=hrel;clear HQ;have q1:(0:Int)≤(i:Int):=by omega
     have q3:=fr.keep q0 nE;obtain⟨⟨l0,l1,l2,l3,l4,l5,l6,l7⟩,_⟩:=Ac q3;by_cases hlt:i<args.length∧0<L
     ·obtain⟨hlt,hL⟩:=hlt
      obtain⟨y,hy⟩:∃ y,args[i]?=some y:=⟨args[i],Lg' hlt⟩
      obtain⟨g,og,rfl,_,hg,_,_,hc⟩:=H6.out.row hlt;have hI:=HI.out;rw[longEs_at hy L hL] at hI;have hyy:=E6.out i y hy;have hwy:=HW6.out i y hy;have hzy:=Et hy;have hle:=Hu y L
      generalize d6 i=di at *
      have hyw:=hyy.keep (w':=wr) (ok':=ok) (Sh.of_fr (f0.trans fr) (fun b hb _=>⟨hb,fun x=>by cases x⟩))
      cases hyy with
      | @mk k2 a2 nm2 n2 s2 ls2 args2 arms2 v5 v6 v7 _ _ _ _ r5 _ r6 _ r7 _ _ =>
      obtain⟨A52,cc52,rfl⟩:=r5.form;obtain⟨A62,cc62,rfl⟩:=r6.form;obtain⟨A72,cc72,rfl⟩:=r7.form;clear r5 r6 r7;have cX:=Hz (IH.out k2 a2 nm2 n2 s2 ls2 args2 arms2 A52 A62 A72 cc52 cc62 cc72 L wr ok (by have:=HN.out;omega) hwy hyw (by omega) hl2);obtain⟨x0,x1,x2,x3,x4,x5,x6,x7⟩:=Pe hg (f0.trans fr) hc;have HJ:=Hz hI
      generalize Dq (.mk k2 a2 nm2 n2 s2 ls2 args2 arms2) L=L2 at *
      clear hc hy hI HI hwy hyw hzy;have q2:(i:Int)<(args.length:Int):=by omega
      go_wp2_with fail;refine cX.out.mono ?_;rintro e w6 ⟨rfl,f6⟩;go_wp2_with fail
      go_roundw
      case rel=>exact⟨i+1,_,rfl,by simp,by omega,by omega,HJ,fr.trans f6⟩
      case measure=>simp[intOf];omega
     ·have HQ3:Hid (Dt (arms.drop 0) L=R):=Hz (by
       have:=HI.out
       by_cases h:i<args.length
       ·rwa [Xb _ _ (by omega)] at this
       ·rwa [List.drop_eq_nil_of_le (show args.length≤i by omega)] at this)
      clear HI;have hcc:¬ (i:Int)<(args.length:Int)∨((i:Int)<(args.length:Int)∧¬ 0<L):=by omega
      clear hlt
      rcases hcc with h1|⟨h1,h2⟩
      all_goals
       go_wp2_with fail
       try clear h2
       clear h1 q1 l0 l1 l2 l3 l4 l5 l6 l7 hi
       have hw7:∃ w7,w7=wr:=⟨_,rfl⟩
       obtain⟨w7,hw7⟩:=hw7;subst hw7;replace f0:=f0.trans fr;replace q0:=q3;clear fr q3
       go_loopw [1,7] (fun lv iv wq=>∃ (i:Nat) (L:Int),lv=vI L∧iv=vI i∧i≤arms.length∧L≤65536∧Hid (Dt (arms.drop i) L=R)∧Fr [] w7 wq) (fun lv iv wq=>arms.length-(intOf iv).toNat)
       case atStart=>exact⟨0,L,rfl,rfl,by omega,hl2,HQ3,Fr.refl _ _⟩
       case round =>
        obtain⟨i,L,rfl,rfl,hi,hl2,HI,fr⟩:=hrel;clear HQ3;have q1:(0:Int)≤(i:Int):=by omega
        have q3:=fr.keep q0 nE;obtain⟨⟨l0,l1,l2,l3,l4,l5,l6,l7⟩,_⟩:=Ac q3;by_cases hlt:i<arms.length∧0<L
        ·obtain⟨hlt,hL⟩:=hlt
         obtain⟨p,y,hy⟩:∃ p y,arms[i]?=some (p,y):=⟨(arms[i]).1,(arms[i]).2,Lg' hlt⟩
         obtain⟨g,og,rfl,_,hg,_,_,hc⟩:=H7.out.row hlt;have hI:=HI.out;rw[longAs_at hy L hL] at hI;have hpp:=E7.out i p y hy;have hyy:=E8.out i p y hy;have hwp:=HW8.out i p y hy;have hwy:=HW9.out i p y hy;have hzy:=Fd hy;have hle1:=Is p L;have hlo1:=(U7 p L hwp).1 hL;have hle2:=Hu y (Dd p L);unfold LW at hlo1
         try dsimp only at hc
         generalize dp i=dpi at *
         generalize de i=di at *
         have hyw:=fun W (hW:Fr [] wr W)=>hyy.keep (w':=W) (ok':=ok) (Sh.of_fr ((f0.trans fr).trans hW) (fun b hb _=>⟨hb,fun x=>by cases x⟩))
         have hpw:=fun W (hW:Fr [] wr W)=>hpp.keep (w':=W) (ok':=ok) (Sh.of_fr ((f0.trans fr).trans hW) (fun b hb _=>⟨hb,fun x=>by cases x⟩))
         cases hyy with
         | @mk k2 a2 nm2 n2 s2 ls2 args2 arms2 v5 v6 v7 _ _ _ _ r5 _ r6 _ r7 _ _ =>
         obtain⟨A52,cc52,rfl⟩:=r5.form;obtain⟨A62,cc62,rfl⟩:=r6.form;obtain⟨A72,cc72,rfl⟩:=r7.form;clear r5 r6 r7
         cases hpp with
         | @mk k3 a3 nm3 n3 s3 ls3 args3 v5 v6 _ _ r5 _ r6 _ =>
         obtain⟨A53,cc53,rfl⟩:=r5.form;obtain⟨A63,cc63,rfl⟩:=r6.form;clear r5 r6;have HC:=Hz hc;have cP:=fun W (hW:Fr [] wr W)=>Hz (Mu _ k3 a3 nm3 n3 s3 ls3 args3 A53 A63 cc53 cc63 L W ok (Nat.lt_succ_self _) hwp (hpw W hW) (by omega) hl2)
         have cX:=fun W (hW:Fr [] wr W)=>Hz (IH.out k2 a2 nm2 n2 s2 ls2 args2 arms2 A52 A62 A72 cc52 cc62 cc72 (Dd (.mk k3 a3 nm3 n3 s3 ls3 args3) L) W ok (by have:=HN.out;omega) hwy (hyw W hW) (by omega) (by omega))
         obtain⟨x0,x1,x2,x3,x4,x5,x6,x7,x8,x9,x10,x11,x12,x13,x14⟩:=Fh hg (f0.trans fr) hc;have HJ:=Hz hI
         generalize Dq (.mk k2 a2 nm2 n2 s2 ls2 args2 arms2) (Dd (.mk k3 a3 nm3 n3 s3 ls3 args3) L)=L2 at *
         generalize Dd (.mk k3 a3 nm3 n3 s3 ls3 args3) L=L1 at *
         clear hc hy hI HI hwy hwp hyw hpw hzy l0 l1 l2 l3 l4 l5 l6;have q2:(i:Int)<(arms.length:Int):=by omega
         go_wp2_with fail
         go_region_held3 (fun w'=>w'.cell? ⟨T,7,none⟩=some (.slice (some ⟨g,og,none⟩) arms.length c7)∧(w'.cell? ⟨g,og+i * 15,none⟩=some (vI k3)∧w'.cell? ⟨g,og+i * 15+1,none⟩=some (vI a3)∧w'.cell? ⟨g,og+i * 15+2,none⟩=some (vS nm3)∧w'.cell? ⟨g,og+i * 15+3,none⟩=some (vI n3)∧w'.cell? ⟨g,og+i * 15+4,none⟩=some (vS s3)∧w'.cell? ⟨g,og+i * 15+5,none⟩=some (.slice A53 ls3.length cc53)∧w'.cell? ⟨g,og+i * 15+6,none⟩=some (.slice A63 args3.length cc63)∧w'.cell? ⟨g,og+i * 15+7,none⟩=some (vI k2)∧w'.cell? ⟨g,og+i * 15+8,none⟩=some (vI a2)∧w'.cell? ⟨g,og+i * 15+9,none⟩=some (vS nm2)∧w'.cell? ⟨g,og+i * 15+10,none⟩=some (vI n2)∧w'.cell? ⟨g,og+i * 15+11,none⟩=some (vS s2)∧w'.cell? ⟨g,og+i * 15+12,none⟩=some (.slice A52 ls2.length cc52)∧w'.cell? ⟨g,og+i * 15+13,none⟩=some (.slice A62 args2.length cc62)∧w'.cell? ⟨g,og+i * 15+14,none⟩=some (.slice A72 arms2.length cc72))) (first|go_keep|exact⟨l7,⟨x0,x1,x2,x3,x4,x5,x6,x7,x8,x9,x10,x11,x12,x13,x14⟩⟩) ((first|((with_reducible refine(cP _ ((Fr.refl [] wr).drew)).out.mono ?_);rintro e w3 ⟨rfl,f3⟩;have l7:=Ae ((((Fr.refl [] wr).drew).trans f3).keep q3 nE) 7;obtain⟨x0,x1,x2,x3,x4,x5,x6,x7,x8,x9,x10,x11,x12,x13,x14⟩:=Fh hg ((f0.trans fr).trans (((Fr.refl [] wr).drew).trans f3)) HC.out)| ((with_reducible refine(cX _ (((Fr.refl [] wr).drew).trans f3)).out.mono ?_);rintro e w4 ⟨rfl,f4⟩;have l7:=Ae (((((Fr.refl [] wr).drew).trans f3).trans f4).keep q3 nE) 7;obtain⟨x0,x1,x2,x3,x4,x5,x6,x7,x8,x9,x10,x11,x12,x13,x14⟩:=Fh hg ((f0.trans fr).trans ((((Fr.refl [] wr).drew).trans f3).trans f4)) HC.out)))
         go_wp2_with fail
         go_roundw
         case rel=>exact⟨i+1,_,rfl,by simp,by omega,by omega,HJ,fr.trans ((((Fr.refl [] wr).drew).trans f3).trans f4)⟩
         case measure=>simp[intOf];omega
        ·have hQ:L=R:=by
          have:=HI.out;by_cases h:i<arms.length
          ·rwa [W9 _ _ (by omega)] at this
          ·rwa [List.drop_eq_nil_of_le (show arms.length≤i by omega)] at this
         subst hQ;clear HI;have hcc:¬ (i:Int)<(arms.length:Int)∨((i:Int)<(arms.length:Int)∧¬ 0<L):=by omega
         clear hlt
         rcases hcc with h1|⟨h1,h2⟩
         all_goals
          go_wp2_with fail;go_ret;exact⟨rfl,f0.trans fr⟩
theorem Ka:∀ N,LEC N
 | 0=>by intro _ _ _ _ _ _ _ _ _ _ _ _ _ _ _ _ _ h;exact absurd h (Nat.not_lt_zero _)
 | N+1=>Xa N (Ka N)
end
theorem Mt:∀ (l:List LB)(n:Int),0<Cj l n→Cj l n+l.length≤n
 | [],n,h=>by rw[Cj];simp
 | y::l,n,h=>by
  rw[Cj] at h ⊢;split at h
  ·rename_i h0
   rw[if_pos h0];have g:=Mt l _ h;rw[Lc']
   push_cast
   omega
  ·omega
mutual
theorem Pu:∀ (x:Ak)(n:Int),0<Dd x n→Dd x n+laP x≤n
 | .mk k a nm m s ls args,n,h=>by
  rw[Dd] at h ⊢;have g1:=Rn args _ h;have g4:=Hk args (Cj ls (n-(nm.length+s.length+1)));have g5:=Mt ls (n-(nm.length+s.length+1)) (by omega);simp only[laP]
  push_cast
  omega
theorem Rn:∀ (l:List Ak)(n:Int),0<Dh l n→Dh l n+Hd l≤n
 | [],n,h=>by rw[Dh];simp[Hd]
 | x::l,n,h=>by
  rw[Dh] at h ⊢;split at h
  ·rename_i h0
   rw[if_pos h0];have g1:=Rn l _ h;have g5:=Hk l (Dd x n);have g3:=Pu x n (by omega);simp only[Hd]
   push_cast
   omega
  ·omega
end
mutual
theorem Jo:∀ (x:Ab)(n:Int),0<Dq x n→Dq x n+laE x≤n
 | .mk k a nm m s ls args arms,n,h=>by
  rw[Dq] at h ⊢;have g4:=Hj args (Cj ls (n-(nm.length+s.length+1)));have g6:=Hi arms (Dg args (Cj ls (n-(nm.length+s.length+1))));have g7:=Rj arms _ h;have g1:=Rk args (Cj ls (n-(nm.length+s.length+1))) (by omega);have g5:=Mt ls (n-(nm.length+s.length+1)) (by omega);simp only[laE]
  push_cast
  omega
theorem Rk:∀ (l:List Ab)(n:Int),0<Dg l n→Dg l n+D7 l≤n
 | [],n,h=>by rw[Dg];simp[D7]
 | x::l,n,h=>by
  rw[Dg] at h ⊢;split at h
  ·rename_i h0
   rw[if_pos h0];have g1:=Rk l _ h;have g5:=Hj l (Dq x n);have g3:=Jo x n (by omega);simp only[D7]
   push_cast
   omega
  ·omega
theorem Rj:∀ (l:List (Ak×Ab))(n:Int),0<Dt l n→Dt l n+D6 l≤n
 | [],n,h=>by rw[Dt];simp[D6]
 | (p,x)::l,n,h=>by
  rw[Dt] at h ⊢;split at h
  ·rename_i h0
   rw[if_pos h0];rw[Pr] at h ⊢;have g0:=Hu x (Dd p n);have g5:=Hi l (Dq x (Dd p n));have g1:=Rj l _ h;have g3:=Jo x (Dd p n) (by omega);have g6:=Pu p n (by omega);simp only[D6,laA]
   push_cast
   omega
  ·omega
end
section
attribute [local go_sem ↓] Go.wp_at_zero Go.wp_at_succ
theorem Qv(k1 a1:Int)(nm1:LB)(n1:Int)(s1:LB)(ls1:List LB)(args1:List Ab)(arms1:List (Ak×Ab))(A51:Option Addr)(n5 c51:Nat)(A61:Option Addr)(n6 c61:Nat)(A71:Option Addr)(n7 c71:Nat)(w:World)(hE:Dx w)(hx:Aj w (fun b=>b<w.heap.size) (.mk k1 a1 nm1 n1 s1 ls1 args1 arms1) [vI k1,vI a1,vS nm1,vI n1,vS s1,.slice A51 n5 c51,.slice A61 n6 c61,.slice A71 n7 c71])(hW:WtE (.mk k1 a1 nm1 n1 s1 ls1 args1 arms1)):
  Calls prog 4 #[.agg #[vI k1,vI a1,vS nm1,vI n1,vS s1,.slice A51 n5 c51,.slice A61 n6 c61,.slice A71 n7 c71]] w fun e w'=>e = .returned (.bool true)∧Fr [] w w':=by
 have hl:n5=ls1.length∧n6=args1.length∧n7=arms1.length:=by
  cases hx with
  | mk c5' c6' cp ce h5 e5 h6 e6 h7 e7 e8=>exact⟨h5.len,h6.len,h7.len⟩
 obtain⟨rfl,rfl,rfl⟩:=hl;have HE:=Hz hE;have cA:=fun w hE=>Hz (I3 w hE)
 have fb:=(Fr.refl [] w).alloc (.cells #[vI k1,vI a1,vS nm1,vI n1,vS s1,.slice A51 ls1.length c51,.slice A61 args1.length c61,.slice A71 arms1.length c71] 35);have HX:=Hz (hx.fr fb);have HW:=Hz hW;have q1:=Ad w (.cells #[vI k1,vI a1,vS nm1,vI n1,vS s1,.slice A51 ls1.length c51,.slice A61 args1.length c61,.slice A71 arms1.length c71] 35);have cL:=fun w hx=>Hz (Ka _ k1 a1 nm1 n1 s1 ls1 args1 arms1 A51 A61 A71 c51 c61 c71 65536 w (fun b=>b<w.heap.size) (Nat.lt_succ_self _) HW.out hx (by omega) (by omega))
 clear hE hx hW;go_enter func4,ntmps4;go_wp2_with fail
 generalize w.alloc (.cells #[vI k1,vI a1,vS nm1,vI n1,vS s1,.slice A51 ls1.length c51,.slice A61 args1.length c61,.slice A71 arms1.length c71] 35)=y1 at *
 generalize w.heap.size=T1 at *
 refine(cA _ (HE.out.fr fb)).out.mono ?_;rintro e w1 ⟨rfl,f1⟩;replace HX:=Hz (HX.out.fr f1);replace q1:=f1.keep q1 nE;have F1:=fb.trans f1;clear fb f1;obtain⟨⟨l0,l1,l2,l3,l4,l5,l6,l7⟩,_⟩:=Ac q1;go_wp2_with fail;refine(cL _ HX.out).out.mono ?_;rintro e w2 ⟨rfl,f2⟩;replace HX:=Hz (HX.out.fr f2);replace q1:=f2.keep q1 nE;have F:=F1.trans f2;clear F1 f2 l0 l1 l2 l3 l4 l5 l6 l7;obtain⟨⟨l0,l1,l2,l3,l4,l5,l6,l7⟩,_⟩:=Ac q1;by_cases hlo:Dq (.mk k1 a1 nm1 n1 s1 ls1 args1 arms1) 65536≤0
 ·go_wp2_with fail;go_ret;exact⟨rfl,F⟩
 ·have hla:=Jo _ 65536 (show 0<Dq (.mk k1 a1 nm1 n1 s1 ls1 args1 arms1) 65536 by omega);obtain⟨hsz,hsw⟩:=Ir _ 65536 HW.out (show 0<Dq (.mk k1 a1 nm1 n1 s1 ls1 args1 arms1) 65536 by omega) (by omega);have hla':laE (.mk k1 a1 nm1 n1 s1 ls1 args1 arms1)≤1099511627776:=by omega
  have cS:=fun w hV hx=>Hz (Hq k1 a1 nm1 n1 s1 ls1 args1 arms1 A51 A61 A71 c51 c61 c71 w hV hx (by omega) hsw)
  generalize Dq (.mk k1 a1 nm1 n1 s1 ls1 args1 arms1) 65536=Z at *
  clear hla hsz cL cA;go_wp2_with fail;refine(cS _ (HE.out.fr F) HX.out).out.mono ?_;rintro e w4 ⟨he,f4⟩
  obtain⟨t,g,hr⟩:∃ t g,Fl (.mk k1 a1 nm1 n1 s1 ls1 args1 arms1)=(t,g):=⟨_,_,rfl⟩
  rw[hr] at he;subst he;replace HX:=Hz (HX.out.fr f4);replace q1:=f4.keep q1 nE;replace F:=F.trans f4;clear f4 l0 l1 l2 l3 l4 l5 l6 l7 cS hlo;by_cases h0:g=0
  ·subst h0;have HB:=Hz (fun y er q h=>Zk hr y er q h);have hlen:=(Iz hr).2.2.1;have htx:=(Iz hr).1;rw[← htx] at hlen;have c3:=fun w hE=>Hz (J3 ⟨t.toArray⟩ (by simp[ByteArray.size];omega) w hE)
   clear hr htx hlen;go_wp2_with fail;refine(c3 _ (HE.out.fr F)).out.mono ?_;rintro e w5 ⟨k2,a2,nm2,n2,s2,ls2,args2,arms2,A52,c52,A62,c62,A72,c72,er2,at2,rfl,hx2,hpr2,f5⟩;obtain⟨rfl,hsm,hs2⟩:=HB.out _ _ _ hpr2;have hla2:=hpr2.la;have fb:=(Fr.refl [] w5).alloc (.cells #[vI k2,vI a2,vS nm2,vI n2,vS s2,.slice A52 ls2.length c52,.slice A62 args2.length c62,.slice A72 arms2.length c72] 35);have HX2:=Hz (hx2.fr fb);have q2:=Ad w5 (.cells #[vI k2,vI a2,vS nm2,vI n2,vS s2,.slice A52 ls2.length c52,.slice A62 args2.length c62,.slice A72 arms2.length c72] 35);replace HX:=Hz ((HX.out.fr f5).fr fb);replace q1:=fb.keep (f5.keep q1 (fun x=>by cases x)) nE;replace F:=(F.trans f5).trans fb;have c2:=fun w hV hx=>Hz (Hq k2 a2 nm2 n2 s2 ls2 args2 arms2 A52 A62 A72 c52 c62 c72 w hV hx (by have:=(S5 hpr2).2.1;omega) (pr_sw hpr2))
   rw[hs2] at c2;have cQ:=fun w h1 h2=>Hz (Oi _ k2 a2 nm2 n2 s2 ls2 args2 arms2 A52 A62 A72 c52 c62 c72 k1 a1 nm1 n1 s1 ls1 args1 arms1 A51 A61 A71 c51 c61 c71 false w (fun b=>b<w.heap.size) (fun b=>b<w.heap.size) (Nat.lt_succ_self _) hla2 hla' h1 h2)
   rw[(Sn _ _).2 hsm.symm] at cQ;clear hpr2 hx2 hsm hs2 HB c3 f5;go_wp2_with fail
   generalize w5.alloc (.cells #[vI k2,vI a2,vS nm2,vI n2,vS s2,.slice A52 ls2.length c52,.slice A62 args2.length c62,.slice A72 arms2.length c72] 35)=y2 at *
   generalize w5.heap.size=T2 at *
   clear fb;obtain⟨⟨m0,m1,m2,m3,m4,m5,m6,m7⟩,_⟩:=Ac q2;go_wp2_with fail;refine(c2 _ (HE.out.fr F) HX2.out).out.mono ?_;rintro e w6 ⟨rfl,f6⟩;replace HX:=Hz (HX.out.fr f6);replace HX2:=Hz (HX2.out.fr f6);replace q1:=f6.keep q1 nE;replace q2:=f6.keep q2 nE;replace F:=F.trans f6;clear f6 c2 m0 m1 m2 m3 m4 m5 m6 m7;obtain⟨⟨l0,l1,l2,l3,l4,l5,l6,l7⟩,_⟩:=Ac q1;obtain⟨⟨m0,m1,m2,m3,m4,m5,m6,m7⟩,_⟩:=Ac q2;have ht:(t==t)=true:=by simp
   go_wp2_with fail;refine(cQ _ HX2.out HX.out).out.mono ?_;rintro e w7 ⟨rfl,f7⟩;go_wp2_with fail;go_ret;exact⟨(by simp),F.trans f7⟩
  ·have hb:(g != 0)=true:=bne_iff_ne.2 h0;have ht:=showR_bad hr h0;subst ht;clear h0 hr;go_wp2_with fail;go_ret;exact⟨(by first|rfl|simp),F⟩
end
end Go.Proofs.YtabhpdhajajoiaaGreatDoor
