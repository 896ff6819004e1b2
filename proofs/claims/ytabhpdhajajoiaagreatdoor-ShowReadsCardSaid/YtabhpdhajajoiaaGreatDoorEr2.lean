/- A part of the proof: Yc, Xa. -/
import Derived.Test.YtabhpdhajajoiaaGreatDoorEr1
namespace Go.Proofs.YtabhpdhajajoiaaGreatDoor
open Go.RowKit
open _root_.Go.Proofs.Tryz
set_option linter.all false
set_option maxHeartbeats 16000000
set_option maxRecDepth 100000
open List renaming getElem?_eq_getElem→Lg'
open Nat renaming le_refl→Nr'
section
attribute [local go_sem ↓] Go.wp_at_zero Go.wp_at_succ
def SQE(N:Nat):Prop:=∀ (k a:Int)(nm:LB)(n:Int)(s:LB)(ls:List LB)(args:List Ab)(arms:List (Ak×Ab))(A5 A6 A7:Option Addr)(cc5 cc6 cc7:Nat)(k' a':Int)(nm':LB)(n':Int)(s':LB)(ls':List LB)(args':List Ab)(arms':List (Ak×Ab))(A5' A6' A7':Option Addr)(cc5' cc6' cc7':Nat)(pl:Bool)(w:World)(ok ok':Nat→Prop),laE (.mk k a nm n s ls args arms)<N→laE (.mk k a nm n s ls args arms)≤1099511627776→laE (.mk k' a' nm' n' s' ls' args' arms')≤1099511627776 →
  Aj w ok (.mk k a nm n s ls args arms) [vI k,vI a,vS nm,vI n,vS s,.slice A5 ls.length cc5,.slice A6 args.length cc6,.slice A7 arms.length cc7]→Aj w ok' (.mk k' a' nm' n' s' ls' args' arms') [vI k',vI a',vS nm',vI n',vS s',.slice A5' ls'.length cc5',.slice A6' args'.length cc6',.slice A7' arms'.length cc7'] →
  Calls prog 19 #[.agg #[vI k,vI a,vS nm,vI n,vS s,.slice A5 ls.length cc5,.slice A6 args.length cc6,.slice A7 arms.length cc7],.agg #[vI k',vI a',vS nm',vI n',vS s',.slice A5' ls'.length cc5',.slice A6' args'.length cc6',.slice A7' arms'.length cc7'],.bool pl] w fun e w'=>e = .returned (.bool (eqE pl (.mk k a nm n s ls args arms) (.mk k' a' nm' n' s' ls' args' arms')))∧Fr [] w w'
theorem eqe_step(N:Nat)(ih:SQE N):SQE (N+1):=by
 intro k a nm n s ls args arms A5 A6 A7 cc5 cc6 cc7 k' a' nm' n' s' ls' args' arms' A5' A6' A7' cc5' cc6' cc7' pl w ok ok' hN hz hz' hx hy
 cases hx with
 | mk c5 c6 cp ce h5 e5 h6 e6 h7 e7 e8 =>
 cases hy with
 | mk d5 d6 dp de h5' e5' h6' e6' h7' e7' e8' =>
 have hsz:laE (.mk k a nm n s ls args arms)=1+ls.length+(D7 args+D6 arms):=by simp[laE]
 have hsz':laE (.mk k' a' nm' n' s' ls' args' arms')=1+ls'.length+(D7 args'+D6 arms'):=by simp[laE]
 rw[hsz] at hN hz;rw[hsz'] at hz';clear hsz hsz';have hm6:(args.length:Int)≤1099511627776:=by have:=Yo args;omega
 have hm6':(args'.length:Int)≤1099511627776:=by have:=Yo args';omega
 have hm7:(arms.length:Int)≤1099511627776:=by have:=Yn arms;omega
 have hm7':(arms'.length:Int)≤1099511627776:=by have:=Yn arms';omega
 have IH:=Hz ih;have H6:=Hz h6;have H6':=Hz h6';have E6:Hid (∀ (i:Nat) (x:Ab),args[i]?=some x→Aj w ok x (c6 i)):=Hz e6;have E6':Hid (∀ (i:Nat) (x:Ab),args'[i]?=some x→Aj w ok' x (d6 i)):=Hz e6';have H7:=Hz h7;have H7':=Hz h7';have E7:Hid (∀ (i:Nat) (p:Ak) (x:Ab),arms[i]?=some (p,x)→Bd w ok p (cp i)):=Hz e7;have E7':Hid (∀ (i:Nat) (p:Ak) (x:Ab),arms'[i]?=some (p,x)→Bd w ok' p (dp i)):=Hz e7';have E8:Hid (∀ (i:Nat) (p:Ak) (x:Ab),arms[i]?=some (p,x)→Aj w ok x (ce i)):=Hz e8;have E8':Hid (∀ (i:Nat) (p:Ak) (x:Ab),arms'[i]?=some (p,x)→Aj w ok' x (de i)):=Hz e8';have cT:=fun W (hW:Fr [] w W)=>Hz (textsB ls ls' (by omega) (by omega) A5 A5' cc5 cc5' W (h5.keep (ok':=ok) (Sh.of_fr hW (fun b hb _=>⟨hb,fun x=>by cases x⟩))) e5 (h5'.keep (ok':=ok') (Sh.of_fr hW (fun b hb _=>⟨hb,fun x=>by cases x⟩))) e5')
 clear ih h5 e5 h6 e6 h5' e5' h6' e6' h7 e7 e8 h7' e7' e8';have HO:=Hz (eqE_mk pl k a nm n s ls args arms k' a' nm' n' s' ls' args' arms')
 generalize eqE pl (.mk k a nm n s ls args arms) (.mk k' a' nm' n' s' ls' args' arms')=O at *
 generalize hQ:(ls==ls')=Q at *
 have HQ:=Hz hQ;clear hQ;by_cases t:k=k'
 rotate_left
 ·have z:(k != k')=true:=by rw[bne_iff_ne];exact t
  have zb:(k==k')=false:=by rw[bN];exact t
  have hO:=HO.out;simp[zb] at hO;subst hO;clear HO zb;go_enter func19,ntmps19;go_wp2_with fail;go_ret;exact⟨rfl,((Fr.refl [] w).alloc _).alloc _⟩
 subst t;have hpl:(pl=true∧a≠a')∨pl=false∨(pl=true∧a=a'):=by cases pl <;> by_cases e:a=a' <;> simp[e]
 rcases hpl with⟨rfl,t⟩| hpl
 ·have z:(a != a')=true:=by rw[bne_iff_ne];exact t
  have zb:(a==a')=false:=by rw[bN];exact t
  have hO:=HO.out;simp[zb] at hO;subst hO;clear HO zb;go_enter func19,ntmps19;go_wp2_with fail;go_ret;exact⟨rfl,((Fr.refl [] w).alloc _).alloc _⟩
 obtain⟨pl0,hp0⟩:∃ b:Bool,b=pl:=⟨_,rfl⟩
 rcases hpl with rfl|⟨rfl,rfl⟩
 all_goals
  by_cases t:nm=nm'
  rotate_left
  ·have z:(nm==nm')=false:=by rw[bN];exact t
   have zb:=z;have hO:=HO.out;simp[zb] at hO;subst hO;clear HO zb;go_enter func19,ntmps19;go_wp2_with fail;go_ret;exact⟨rfl,((Fr.refl [] w).alloc _).alloc _⟩
  subst t;by_cases t:n=n'
  rotate_left
  ·have z:(n != n')=true:=by rw[bne_iff_ne];exact t
   have zb:(n==n')=false:=by rw[bN];exact t
   have hO:=HO.out;simp[zb] at hO;subst hO;clear HO zb;go_enter func19,ntmps19;go_wp2_with fail;go_ret;exact⟨rfl,((Fr.refl [] w).alloc _).alloc _⟩
  subst t;by_cases t:s=s'
  rotate_left
  ·have z:(s==s')=false:=by rw[bN];exact t
   have zb:=z;have hO:=HO.out;simp[zb] at hO;subst hO;clear HO zb;go_enter func19,ntmps19;go_wp2_with fail;go_ret;exact⟨rfl,((Fr.refl [] w).alloc _).alloc _⟩
  subst t;cases Q
  ·have hO:=HO.out;simp at hO;subst hO;clear HO;go_enter func19,ntmps19;go_wp2_with fail;refine(cT _ (((Fr.refl [] w).alloc _).alloc _)).out.mono ?_;rintro e w1 ⟨rfl,f1⟩;go_wp2_with fail;go_ret;exact⟨rfl,(((Fr.refl [] w).alloc _).alloc _).trans f1⟩
  obtain rfl:ls=ls':=by have:=HQ.out;simpa using this
  clear HQ;by_cases t:args.length=args'.length
  rotate_left
  ·have z:((args.length:Int)!=(args'.length:Int))=true:=by rw[bne_iff_ne];omega
   have zb:(args.length==args'.length)=false:=by rw[bN];exact t
   have hO:=HO.out;simp[zb] at hO;subst hO;clear HO zb;go_enter func19,ntmps19;go_wp2_with fail;refine(cT _ (((Fr.refl [] w).alloc _).alloc _)).out.mono ?_;rintro e w1 ⟨rfl,f1⟩;have q3:=f1.keep (Af (Ad w _) _) nE;have q4:=f1.keep (Ad (w.alloc _) _) nE;rw[Nr] at q4;have hT2:w.heap.size+2≤w1.heap.size:=by have:=f1.size;simp at this;omega
   have t6:=Ae q3 6;have t6':=Ae q4 6;go_wp2_with fail;go_ret;exact⟨rfl,(((Fr.refl [] w).alloc _).alloc _).trans f1⟩
  by_cases tm:arms.length=arms'.length
  rotate_left
  ·have z:((arms.length:Int)!=(arms'.length:Int))=true:=by rw[bne_iff_ne];omega
   have zb:(arms.length==arms'.length)=false:=by rw[bN];exact tm
   have hO:=HO.out;simp[zb] at hO;subst hO;clear HO zb;go_enter func19,ntmps19;go_wp2_with fail;refine(cT _ (((Fr.refl [] w).alloc _).alloc _)).out.mono ?_;rintro e w1 ⟨rfl,f1⟩;have q3:=f1.keep (Af (Ad w _) _) nE;have q4:=f1.keep (Ad (w.alloc _) _) nE;rw[Nr] at q4;have hT2:w.heap.size+2≤w1.heap.size:=by have:=f1.size;simp at this;omega
   rw[← t] at q4;have t6:=Ae q3 6;have t6':=Ae q4 6;have t7:=Ae q3 7;have t7':=Ae q4 7;go_wp2_with fail;go_ret;exact⟨rfl,(((Fr.refl [] w).alloc _).alloc _).trans f1⟩
  have HO1:Hid (O=(Lv pl0 (args.drop 0) (args'.drop 0)&&Km pl0 arms arms')):=Hz (by have:=HO.out;rw[hp0];simpa [t,tm] using this);have HTL:=Hz t;have HP0:=Hz hp0;rw[← t] at H6';have HTM:=Hz tm;rw[← tm] at H7';clear t HO hp0 tm;go_enter func19,ntmps19;go_wp2_with fail;refine(cT _ (((Fr.refl [] w).alloc _).alloc _)).out.mono ?_;rintro e w1 ⟨rfl,f1⟩;have q3:=f1.keep (Af (Ad w _) _) nE;have q4:=f1.keep (Ad (w.alloc _) _) nE;rw[Nr] at q4;have hT2:w.heap.size+2≤w1.heap.size:=by have:=f1.size;simp at this;omega
  rw[← HTL.out,← HTM.out] at q4;have f:=(((Fr.refl [] w).alloc _).alloc _).trans f1;clear f1 cT;have t6:=Ae q3 6;have t6':=Ae q4 6;have t7:=Ae q3 7;have t7':=Ae q4 7;go_wp2_with fail;clear t6 t6' t7 t7'
  go_loopw [7] (fun iv wq=>∃ i:Nat,iv=vI i∧i≤args.length∧Fr [] w1 wq∧Hid (O=(Lv pl0 (args.drop i) (args'.drop i)&&Km pl0 arms arms'))) (fun iv wq=>args.length-(intOf iv).toNat)
  case atStart=>exact⟨0,rfl,by omega,Fr.refl _ _,HO1⟩
  case round =>
   obtain⟨i,rfl,hi,fr,HI⟩:=hrel;have q3:=fr.keep q3 nE;have q4:=fr.keep q4 nE;have f:=f.trans fr;have hTw:w.heap.size+2≤wr.heap.size:=Nat.le_trans hT2 fr.size
   generalize hT:w.heap.size=T at *
   have t6:=Ae q3 6;have t6':=Ae q4 6;by_cases hlt:i<args.length
   ·obtain⟨g,og,rfl,_,hg,_,_,hc⟩:=H6.out.row hlt;obtain⟨g',og',rfl,_,hg',_,_,hc'⟩:=H6'.out.row hlt
    obtain⟨x,hx⟩:∃ x,args[i]?=some x:=⟨args[i],Lg' hlt⟩
    obtain⟨y,hy⟩:∃ y,args'[i]?=some y:=⟨args'[i]'(by rw[← HTL.out];exact hlt),Lg' _⟩
    have hI:=HI.out;rw[eqEs_at hx hy] at hI;have hxx:=E6.out i x hx;have hyy:=E6'.out i y hy;have hzx:=Uz hx;have hzy:=Uz hy;clear hx hy HI
    generalize c6 i=ci at *
    generalize d6 i=di at *
    have hxxw:=fun W (hW:Fr [] wr W)=>hxx.keep (w':=W) (ok':=ok) (Sh.of_fr (f.trans hW) (fun b hb _=>⟨hb,fun x=>by cases x⟩))
    have hyyw:=fun W (hW:Fr [] wr W)=>hyy.keep (w':=W) (ok':=ok') (Sh.of_fr (f.trans hW) (fun b hb _=>⟨hb,fun x=>by cases x⟩))
    cases hxx with
    | @mk k2 a2 nm2 n2 s2 ls2 args2 arms2 v5 v6 v7 _ _ _ _ r5 _ r6 _ r7 _ _ =>
    obtain⟨A52,cc52,rfl⟩:=r5.form;obtain⟨A62,cc62,rfl⟩:=r6.form;obtain⟨A72,cc72,rfl⟩:=r7.form;clear r5 r6 r7
    cases hyy with
    | @mk k2' a2' nm2' n2' s2' ls2' args2' arms2' v5 v6 v7 _ _ _ _ r5 _ r6 _ r7 _ _ =>
    obtain⟨A52',cc52',rfl⟩:=r5.form;obtain⟨A62',cc62',rfl⟩:=r6.form;obtain⟨A72',cc72',rfl⟩:=r7.form;clear r5 r6 r7;have HC:=Hz hc;have HC':=Hz hc';clear hc hc';have cX:=fun W (hW:Fr [] wr W)=>Hz (IH.out k2 a2 nm2 n2 s2 ls2 args2 arms2 A52 A62 A72 cc52 cc62 cc72 k2' a2' nm2' n2' s2' ls2' args2' arms2' A52' A62' A72' cc52' cc62' cc72' pl0 W ok ok' (by omega) (by omega) (by omega) (hxxw W hW) (hyyw W hW))
    generalize eqE pl0 (.mk k2 a2 nm2 n2 s2 ls2 args2 arms2) (.mk k2' a2' nm2' n2' s2' ls2' args2' arms2')=bX at *
    simp only[HP0.out] at cX;have HJ:=Hz hI;clear hI hxxw hyyw hzx hzy;have q1:(0:Int)≤(i:Int):=by omega
    have q2:(i:Int)<(args.length:Int):=by omega
    obtain⟨x0,x1,x2,x3,x4,x5,x6,x7⟩:=Pe hg (f) HC.out;obtain⟨y0,y1,y2,y3,y4,y5,y6,y7⟩:=Pe hg' (f) HC'.out;cases bX
    all_goals
     go_wp2_with fail
     go_region_held3 (fun w'=>w'.cell? ⟨T,6,none⟩=some (.slice (some ⟨g,og,none⟩) args.length cc6)∧w'.cell? ⟨T+1,6,none⟩=some (.slice (some ⟨g',og',none⟩) args.length cc6')∧(w'.cell? ⟨g,og+i * 8,none⟩=some (vI k2)∧w'.cell? ⟨g,og+i * 8+1,none⟩=some (vI a2)∧w'.cell? ⟨g,og+i * 8+2,none⟩=some (vS nm2)∧w'.cell? ⟨g,og+i * 8+3,none⟩=some (vI n2)∧w'.cell? ⟨g,og+i * 8+4,none⟩=some (vS s2)∧w'.cell? ⟨g,og+i * 8+5,none⟩=some (.slice A52 ls2.length cc52)∧w'.cell? ⟨g,og+i * 8+6,none⟩=some (.slice A62 args2.length cc62)∧w'.cell? ⟨g,og+i * 8+7,none⟩=some (.slice A72 arms2.length cc72))∧(w'.cell? ⟨g',og'+i * 8,none⟩=some (vI k2')∧w'.cell? ⟨g',og'+i * 8+1,none⟩=some (vI a2')∧w'.cell? ⟨g',og'+i * 8+2,none⟩=some (vS nm2')∧w'.cell? ⟨g',og'+i * 8+3,none⟩=some (vI n2')∧w'.cell? ⟨g',og'+i * 8+4,none⟩=some (vS s2')∧w'.cell? ⟨g',og'+i * 8+5,none⟩=some (.slice A52' ls2'.length cc52')∧w'.cell? ⟨g',og'+i * 8+6,none⟩=some (.slice A62' args2'.length cc62')∧w'.cell? ⟨g',og'+i * 8+7,none⟩=some (.slice A72' arms2'.length cc72'))) (first|go_keep|exact⟨t6,t6',⟨x0,x1,x2,x3,x4,x5,x6,x7⟩,⟨y0,y1,y2,y3,y4,y5,y6,y7⟩⟩) (((with_reducible refine(cX _ ((Fr.refl [] wr).drew)).out.mono ?_);rintro e w3 ⟨rfl,f3⟩;have t6:=Ae ((((Fr.refl [] wr).drew).trans f3).keep q3 nE) 6;have t6':=Ae ((((Fr.refl [] wr).drew).trans f3).keep q4 nE) 6;obtain⟨x0,x1,x2,x3,x4,x5,x6,x7⟩:=Pe hg (f.trans (((Fr.refl [] wr).drew).trans f3)) HC.out;obtain⟨y0,y1,y2,y3,y4,y5,y6,y7⟩:=Pe hg' (f.trans (((Fr.refl [] wr).drew).trans f3)) HC'.out))
     go_wp2_with fail
    ·have hO:=HJ.out;simp at hO;subst hO;go_ret;exact⟨rfl,f.trans (((Fr.refl [] wr).drew).trans f3)⟩
    ·go_roundw
     case rel=>exact⟨i+1,by simp,by omega,fr.trans (((Fr.refl [] wr).drew).trans f3),Hz (by have:=HJ.out;simpa using this)⟩
     case measure=>simp[intOf];omega
   ·have ei:i=args.length:=by omega
    subst ei;have HO2:Hid (O=Km pl0 (arms.drop 0) (arms'.drop 0)):=Hz (by have:=HI.out;rw[eqEs_end (Nr' _)] at this;simpa using this);clear HI;have t7:=Ae q3 7;have t7':=Ae q4 7;go_wp2_with fail;clear t6 t6' t7 t7' hlt hi
    have hw5:∃ w5,w5=wr:=⟨_,rfl⟩
    obtain⟨w5,hw5⟩:=hw5;subst hw5;subst hT;have hT2:=hTw;clear fr hTw
    go_loopw [8] (fun iv wq=>∃ i:Nat,iv=vI i∧i≤arms.length∧Fr [] w5 wq∧Hid (O=(Km pl0 (arms.drop i) (arms'.drop i)))) (fun iv wq=>arms.length-(intOf iv).toNat)
    case atStart=>exact⟨0,rfl,by omega,Fr.refl _ _,HO2⟩
    case round =>
     obtain⟨i,rfl,hi,fr,HI⟩:=hrel;have q3:=fr.keep q3 nE;have q4:=fr.keep q4 nE;have f:=f.trans fr;have hTw:w.heap.size+2≤wr.heap.size:=Nat.le_trans hT2 fr.size
     generalize hT:w.heap.size=T at *
     have t6:=Ae q3 7;have t6':=Ae q4 7;by_cases hlt:i<arms.length
     ·obtain⟨g,og,rfl,_,hg,_,_,hc⟩:=H7.out.row hlt;obtain⟨g',og',rfl,_,hg',_,_,hc'⟩:=H7'.out.row hlt
      obtain⟨p,x,hx⟩:∃ p x,arms[i]?=some (p,x):=⟨(arms[i]).1,(arms[i]).2,Lg' hlt⟩
      obtain⟨p',y,hy⟩:∃ p' y,arms'[i]?=some (p',y):=⟨(arms'[i]'(by rw[← HTM.out];exact hlt)).1,(arms'[i]'(by rw[← HTM.out];exact hlt)).2,Lg' _⟩
      have hI:=HI.out;rw[eqAs_at hx hy] at hI;have hxx:=E8.out i p x hx;have hyy:=E8'.out i p' y hy;have hpp:=E7.out i p x hx;have hpp':=E7'.out i p' y hy;have hzx:=Uy hx;have hzy:=Uy hy;clear hx hy HI
      try dsimp only at hc hc'
      generalize cp i=cpi at *
      generalize dp i=dpi at *
      generalize ce i=ci at *
      generalize de i=di at *
      have hxxw:=fun W (hW:Fr [] wr W)=>hxx.keep (w':=W) (ok':=ok) (Sh.of_fr (f.trans hW) (fun b hb _=>⟨hb,fun x=>by cases x⟩))
      have hyyw:=fun W (hW:Fr [] wr W)=>hyy.keep (w':=W) (ok':=ok') (Sh.of_fr (f.trans hW) (fun b hb _=>⟨hb,fun x=>by cases x⟩))
      have hppw:=fun W (hW:Fr [] wr W)=>hpp.keep (w':=W) (ok':=ok) (Sh.of_fr (f.trans hW) (fun b hb _=>⟨hb,fun x=>by cases x⟩))
      have hpp'w:=fun W (hW:Fr [] wr W)=>hpp'.keep (w':=W) (ok':=ok') (Sh.of_fr (f.trans hW) (fun b hb _=>⟨hb,fun x=>by cases x⟩))
      cases hxx with
      | @mk k2 a2 nm2 n2 s2 ls2 args2 arms2 v5 v6 v7 _ _ _ _ r5 _ r6 _ r7 _ _ =>
      obtain⟨A52,cc52,rfl⟩:=r5.form;obtain⟨A62,cc62,rfl⟩:=r6.form;obtain⟨A72,cc72,rfl⟩:=r7.form;clear r5 r6 r7
      cases hyy with
      | @mk k2' a2' nm2' n2' s2' ls2' args2' arms2' v5 v6 v7 _ _ _ _ r5 _ r6 _ r7 _ _ =>
      obtain⟨A52',cc52',rfl⟩:=r5.form;obtain⟨A62',cc62',rfl⟩:=r6.form;obtain⟨A72',cc72',rfl⟩:=r7.form;clear r5 r6 r7
      cases hpp with
      | @mk k3 a3 nm3 n3 s3 ls3 args3 v5 v6 _ _ r5 _ r6 _ =>
      obtain⟨A53,cc53,rfl⟩:=r5.form;obtain⟨A63,cc63,rfl⟩:=r6.form;clear r5 r6
      cases hpp' with
      | @mk k3' a3' nm3' n3' s3' ls3' args3' v5 v6 _ _ r5 _ r6 _ =>
      obtain⟨A53',cc53',rfl⟩:=r5.form;obtain⟨A63',cc63',rfl⟩:=r6.form;clear r5 r6;have HC:=Hz hc;have HC':=Hz hc';clear hc hc';have cX:=fun W (hW:Fr [] wr W)=>Hz (IH.out k2 a2 nm2 n2 s2 ls2 args2 arms2 A52 A62 A72 cc52 cc62 cc72 k2' a2' nm2' n2' s2' ls2' args2' arms2' A52' A62' A72' cc52' cc62' cc72' pl0 W ok ok' (by omega) (by omega) (by omega) (hxxw W hW) (hyyw W hW))
      have cP:=fun W (hW:Fr [] wr W)=>Hz (So (laP (.mk k3 a3 nm3 n3 s3 ls3 args3)+1) k3 a3 nm3 n3 s3 ls3 args3 A53 A63 cc53 cc63 k3' a3' nm3' n3' s3' ls3' args3' A53' A63' cc53' cc63' pl0 W ok ok' (by omega) (by omega) (by omega) (hppw W hW) (hpp'w W hW))
      generalize eqE pl0 (.mk k2 a2 nm2 n2 s2 ls2 args2 arms2) (.mk k2' a2' nm2' n2' s2' ls2' args2' arms2')=bX at *
      generalize eqP pl0 (.mk k3 a3 nm3 n3 s3 ls3 args3) (.mk k3' a3' nm3' n3' s3' ls3' args3')=bP at *
      simp only[HP0.out] at cX cP;have HJ:=Hz hI;clear hI hxxw hyyw hzx hzy hppw hpp'w;have q1:(0:Int)≤(i:Int):=by omega
      have q2:(i:Int)<(arms.length:Int):=by omega
      obtain⟨x0,x1,x2,x3,x4,x5,x6,x7,x8,x9,x10,x11,x12,x13,x14⟩:=Fh hg (f) HC.out;obtain⟨y0,y1,y2,y3,y4,y5,y6,y7,y8,y9,y10,y11,y12,y13,y14⟩:=Fh hg' (f) HC'.out;cases bP
      ·go_wp2_with fail;refine wp_region_held_drew (S:=(fun w'=>w'.cell? ⟨T,7,none⟩=some (.slice (some ⟨g,og,none⟩) arms.length cc7)∧w'.cell? ⟨T+1,7,none⟩=some (.slice (some ⟨g',og',none⟩) arms.length cc7')∧(w'.cell? ⟨g,og+i * 15,none⟩=some (vI k3)∧w'.cell? ⟨g,og+i * 15+1,none⟩=some (vI a3)∧w'.cell? ⟨g,og+i * 15+2,none⟩=some (vS nm3)∧w'.cell? ⟨g,og+i * 15+3,none⟩=some (vI n3)∧w'.cell? ⟨g,og+i * 15+4,none⟩=some (vS s3)∧w'.cell? ⟨g,og+i * 15+5,none⟩=some (.slice A53 ls3.length cc53)∧w'.cell? ⟨g,og+i * 15+6,none⟩=some (.slice A63 args3.length cc63)∧w'.cell? ⟨g,og+i * 15+7,none⟩=some (vI k2)∧w'.cell? ⟨g,og+i * 15+8,none⟩=some (vI a2)∧w'.cell? ⟨g,og+i * 15+9,none⟩=some (vS nm2)∧w'.cell? ⟨g,og+i * 15+10,none⟩=some (vI n2)∧w'.cell? ⟨g,og+i * 15+11,none⟩=some (vS s2)∧w'.cell? ⟨g,og+i * 15+12,none⟩=some (.slice A52 ls2.length cc52)∧w'.cell? ⟨g,og+i * 15+13,none⟩=some (.slice A62 args2.length cc62)∧w'.cell? ⟨g,og+i * 15+14,none⟩=some (.slice A72 arms2.length cc72))∧(w'.cell? ⟨g',og'+i * 15,none⟩=some (vI k3')∧w'.cell? ⟨g',og'+i * 15+1,none⟩=some (vI a3')∧w'.cell? ⟨g',og'+i * 15+2,none⟩=some (vS nm3')∧w'.cell? ⟨g',og'+i * 15+3,none⟩=some (vI n3')∧w'.cell? ⟨g',og'+i * 15+4,none⟩=some (vS s3')∧w'.cell? ⟨g',og'+i * 15+5,none⟩=some (.slice A53' ls3'.length cc53')∧w'.cell? ⟨g',og'+i * 15+6,none⟩=some (.slice A63' args3'.length cc63')∧w'.cell? ⟨g',og'+i * 15+7,none⟩=some (vI k2')∧w'.cell? ⟨g',og'+i * 15+8,none⟩=some (vI a2')∧w'.cell? ⟨g',og'+i * 15+9,none⟩=some (vS nm2')∧w'.cell? ⟨g',og'+i * 15+10,none⟩=some (vI n2')∧w'.cell? ⟨g',og'+i * 15+11,none⟩=some (vS s2')∧w'.cell? ⟨g',og'+i * 15+12,none⟩=some (.slice A52' ls2'.length cc52')∧w'.cell? ⟨g',og'+i * 15+13,none⟩=some (.slice A62' args2'.length cc62')∧w'.cell? ⟨g',og'+i * 15+14,none⟩=some (.slice A72' arms2'.length cc72')))) (by kernel_rfl) ?_ (fun hHeld=>?_)
       ·exact⟨t6,t6',⟨x0,x1,x2,x3,x4,x5,x6,x7,x8,x9,x10,x11,x12,x13,x14⟩,⟨y0,y1,y2,y3,y4,y5,y6,y7,y8,y9,y10,y11,y12,y13,y14⟩⟩
       refine wpAnyH_take (i:=0) (oi:={ dst:=some 98,op:=_,type:=_,pos:=_,after:=_,guard:=_ }) (v:=?_) rfl (by kernel_rfl) (by kernel_rfl) (by kernel_rfl) (fun _ _ _ h=>h) (Or.inl ⟨by rfl,?_⟩) (by assumption) ?_
       rotate_left
       ·intro w hSw;(try dsimp only at hSw);go_simp;(try with_reducible rfl)
       try simp only[Act.put,sX]
       refine wpAnyH_take (i:=1) (oi:={ dst:=some 99,op:=_,type:=_,pos:=_,after:=_,guard:=_ }) (v:=?_) rfl (by kernel_rfl) (by kernel_rfl) (by kernel_rfl) (fun _ _ _ h=>h) (Or.inl ⟨by rfl,?_⟩) (by assumption) ?_
       rotate_left
       ·intro w hSw;(try dsimp only at hSw);go_simp;(try with_reducible rfl)
       try simp only[Act.put,sX]
       refine wpAnyH_take (i:=2) (oi:={ dst:=some 100,op:=_,type:=_,pos:=_,after:=_,guard:=_ }) (v:=?_) rfl (by kernel_rfl) (by kernel_rfl) (by kernel_rfl) (fun _ _ _ h=>h) (Or.inl ⟨by rfl,?_⟩) (by assumption) ?_
       rotate_left
       ·intro w hSw;(try dsimp only at hSw);go_simp;(try with_reducible rfl)
       try simp only[Act.put,sX]
       refine wpAnyH_take (i:=3) (oi:={ dst:=some 101,op:=_,type:=_,pos:=_,after:=_,guard:=_ }) (v:=?_) rfl (by kernel_rfl) (by kernel_rfl) (by kernel_rfl) (fun _ _ _ h=>h) (Or.inl ⟨by rfl,?_⟩) (by assumption) ?_
       rotate_left
       ·intro w hSw;(try dsimp only at hSw);go_simp;(try with_reducible rfl)
       try simp only[Act.put,sX]
       refine wpAnyH_take (i:=4) (oi:={ dst:=some 102,op:=_,type:=_,pos:=_,after:=_,guard:=_ }) (v:=?_) rfl (by kernel_rfl) (by kernel_rfl) (by kernel_rfl) (fun _ _ _ h=>h) (Or.inl ⟨by rfl,?_⟩) (by assumption) ?_
       rotate_left
       ·intro w hSw;(try dsimp only at hSw);go_simp;(try with_reducible rfl)
       try simp only[Act.put,sX]
       refine wpAnyH_take (i:=5) (oi:={ dst:=some 103,op:=_,type:=_,pos:=_,after:=_,guard:=_ }) (v:=?_) rfl (by kernel_rfl) (by kernel_rfl) (by kernel_rfl) (fun _ _ _ h=>h) (Or.inl ⟨by rfl,?_⟩) (by assumption) ?_
       rotate_left
       ·intro w hSw;(try dsimp only at hSw);go_simp;(try with_reducible rfl)
       try simp only[Act.put,sX]
       refine wpAnyH_take (i:=6) (oi:={ dst:=some 104,op:=_,type:=_,pos:=_,after:=_,guard:=_ }) (v:=?_) rfl (by kernel_rfl) (by kernel_rfl) (by kernel_rfl) (fun _ _ _ h=>h) (Or.inl ⟨by rfl,?_⟩) (by assumption) ?_
       rotate_left
       ·intro w hSw;(try dsimp only at hSw);go_simp;(try with_reducible rfl)
       try simp only[Act.put,sX]
       refine wpAnyH_take (i:=7) (oi:={ dst:=some 105,op:=_,type:=_,pos:=_,after:=_,guard:=_ }) (v:=?_) rfl (by kernel_rfl) (by kernel_rfl) (by kernel_rfl) (fun _ _ _ h=>h) (Or.inl ⟨by rfl,?_⟩) (by assumption) ?_
       rotate_left
       ·intro w hSw;(try dsimp only at hSw);go_simp;(try with_reducible rfl)
       try simp only[Act.put,sX]
       refine wpAnyH_take (i:=8) (oi:={ dst:=some 106,op:=_,type:=_,pos:=_,after:=_,guard:=_ }) (v:=?_) rfl (by kernel_rfl) (by kernel_rfl) (by kernel_rfl) (fun _ _ _ h=>h) (Or.inl ⟨by rfl,?_⟩) (by assumption) ?_
       rotate_left
       ·intro w hSw;(try dsimp only at hSw);go_simp;(try with_reducible rfl)
       try simp only[Act.put,sX]
       refine wpAnyH_take (i:=9) (oi:={ dst:=some 107,op:=_,type:=_,pos:=_,after:=_,guard:=_ }) (v:=?_) rfl (by kernel_rfl) (by kernel_rfl) (by kernel_rfl) (fun _ _ _ h=>h) (Or.inl ⟨by rfl,?_⟩) (by assumption) ?_
       rotate_left
       ·intro w hSw;(try dsimp only at hSw);go_simp;(try with_reducible rfl)
       try simp only[Act.put,sX]
       refine wpAnyH_take (i:=10) (oi:={ dst:=some 108,op:=_,type:=_,pos:=_,after:=_,guard:=_ }) (v:=?_) rfl (by kernel_rfl) (by kernel_rfl) (by kernel_rfl) (fun _ _ _ h=>h) (Or.inl ⟨by rfl,?_⟩) (by assumption) ?_
       rotate_left
       ·intro w hSw;(try dsimp only at hSw);go_simp;(try with_reducible rfl)
       try simp only[Act.put,sX]
       refine wpAnyH_take (i:=11) (oi:={ dst:=some 109,op:=_,type:=_,pos:=_,after:=_,guard:=_ }) (v:=?_) rfl (by kernel_rfl) (by kernel_rfl) (by kernel_rfl) (fun _ _ _ h=>h) (Or.inl ⟨by rfl,?_⟩) (by assumption) ?_
       rotate_left
       ·intro w hSw;(try dsimp only at hSw);go_simp;(try with_reducible rfl)
       try simp only[Act.put,sX]
       refine wpAnyH_take (i:=12) (oi:={ dst:=some 110,op:=_,type:=_,pos:=_,after:=_,guard:=_ }) (v:=?_) rfl (by kernel_rfl) (by kernel_rfl) (by kernel_rfl) (fun _ _ _ h=>h) (Or.inl ⟨by rfl,?_⟩) (by assumption) ?_
       rotate_left
       ·intro w hSw;(try dsimp only at hSw);go_simp;(try with_reducible rfl)
       try simp only[Act.put,sX]
       refine wpAnyH_ready (rs:=[13]) (by kernel_rfl) (by simp) ?_;refine AllReadyH.cons (o:={ dst:=some 111,op:=_,type:=_,pos:=_,after:=_,guard:=_ }) rfl (fun K hK=>?_) AllReadyH.nil;go_simp;(with_reducible refine(cP _ ((Fr.refl [] wr).drew)).out.mono ?_);rintro e w3 ⟨rfl,f3⟩;have t6:=Ae ((((Fr.refl [] wr).drew).trans f3).keep q3 nE) 7;have t6':=Ae ((((Fr.refl [] wr).drew).trans f3).keep q4 nE) 7;obtain⟨x0,x1,x2,x3,x4,x5,x6,x7,x8,x9,x10,x11,x12,x13,x14⟩:=Fh hg (f.trans (((Fr.refl [] wr).drew).trans f3)) HC.out;obtain⟨y0,y1,y2,y3,y4,y5,y6,y7,y8,y9,y10,y11,y12,y13,y14⟩:=Fh hg' (f.trans (((Fr.refl [] wr).drew).trans f3)) HC'.out;go_simp;refine hK.out _ _ ?_ (fun hHeld=>?_)
       ·exact⟨t6,t6',⟨x0,x1,x2,x3,x4,x5,x6,x7,x8,x9,x10,x11,x12,x13,x14⟩,⟨y0,y1,y2,y3,y4,y5,y6,y7,y8,y9,y10,y11,y12,y13,y14⟩⟩
       clear hK K
       try simp only[Act.put,sX]
       refine wpAnyH_take (i:=14) (oi:={ dst:=some 112,op:=_,type:=_,pos:=_,after:=_,guard:=_ }) (v:=?_) rfl (by kernel_rfl) (by kernel_rfl) (by kernel_rfl) (fun _ _ _ h=>h) (Or.inl ⟨by rfl,?_⟩) (by assumption) ?_
       rotate_left
       ·intro w hSw;(try dsimp only at hSw);go_simp;(try with_reducible rfl)
       try simp only[Act.put,sX]
       refine wpAnyH_take (i:=15) (oi:={ dst:=some 113,op:=_,type:=_,pos:=_,after:=_,guard:=_ }) (v:=?_) rfl (by kernel_rfl) (by kernel_rfl) (by kernel_rfl) (fun _ _ _ h=>h) (Or.inl ⟨by rfl,?_⟩) (by assumption) ?_
       rotate_left
       ·intro w hSw;(try dsimp only at hSw);go_simp;(try with_reducible rfl)
       try simp only[Act.put,sX]
       refine wpAnyH_take (i:=16) (oi:={ dst:=some 114,op:=_,type:=_,pos:=_,after:=_,guard:=_ }) (v:=_) rfl (by kernel_rfl) (by kernel_rfl) (by kernel_rfl) (fun _ _ _ h=>h) (Or.inr ⟨by rfl,rfl⟩) (by assumption) ?_
       try simp only[Act.put,sX]
       refine wpAnyH_take (i:=17) (oi:={ dst:=some 115,op:=_,type:=_,pos:=_,after:=_,guard:=_ }) (v:=_) rfl (by kernel_rfl) (by kernel_rfl) (by kernel_rfl) (fun _ _ _ h=>h) (Or.inr ⟨by rfl,rfl⟩) (by assumption) ?_
       try simp only[Act.put,sX]
       refine wpAnyH_take (i:=18) (oi:={ dst:=some 116,op:=_,type:=_,pos:=_,after:=_,guard:=_ }) (v:=_) rfl (by kernel_rfl) (by kernel_rfl) (by kernel_rfl) (fun _ _ _ h=>h) (Or.inr ⟨by rfl,rfl⟩) (by assumption) ?_
       try simp only[Act.put,sX]
       refine wpAnyH_take (i:=19) (oi:={ dst:=some 117,op:=_,type:=_,pos:=_,after:=_,guard:=_ }) (v:=_) rfl (by kernel_rfl) (by kernel_rfl) (by kernel_rfl) (fun _ _ _ h=>h) (Or.inr ⟨by rfl,rfl⟩) (by assumption) ?_
       try simp only[Act.put,sX]
       refine wpAnyH_take (i:=20) (oi:={ dst:=some 118,op:=_,type:=_,pos:=_,after:=_,guard:=_ }) (v:=_) rfl (by kernel_rfl) (by kernel_rfl) (by kernel_rfl) (fun _ _ _ h=>h) (Or.inr ⟨by rfl,rfl⟩) (by assumption) ?_
       try simp only[Act.put,sX]
       refine wpAnyH_take (i:=21) (oi:={ dst:=some 119,op:=_,type:=_,pos:=_,after:=_,guard:=_ }) (v:=_) rfl (by kernel_rfl) (by kernel_rfl) (by kernel_rfl) (fun _ _ _ h=>h) (Or.inr ⟨by rfl,rfl⟩) (by assumption) ?_
       try simp only[Act.put,sX]
       refine wpAnyH_take (i:=22) (oi:={ dst:=some 120,op:=_,type:=_,pos:=_,after:=_,guard:=_ }) (v:=_) rfl (by kernel_rfl) (by kernel_rfl) (by kernel_rfl) (fun _ _ _ h=>h) (Or.inr ⟨by rfl,rfl⟩) (by assumption) ?_
       try simp only[Act.put,sX]
       refine wpAnyH_take (i:=23) (oi:={ dst:=some 121,op:=_,type:=_,pos:=_,after:=_,guard:=_ }) (v:=_) rfl (by kernel_rfl) (by kernel_rfl) (by kernel_rfl) (fun _ _ _ h=>h) (Or.inr ⟨by rfl,rfl⟩) (by assumption) ?_
       try simp only[Act.put,sX]
       refine wpAnyH_take (i:=24) (oi:={ dst:=some 122,op:=_,type:=_,pos:=_,after:=_,guard:=_ }) (v:=_) rfl (by kernel_rfl) (by kernel_rfl) (by kernel_rfl) (fun _ _ _ h=>h) (Or.inr ⟨by rfl,rfl⟩) (by assumption) ?_
       try simp only[Act.put,sX]
       refine wpAnyH_take (i:=25) (oi:={ dst:=some 123,op:=_,type:=_,pos:=_,after:=_,guard:=_ }) (v:=_) rfl (by kernel_rfl) (by kernel_rfl) (by kernel_rfl) (fun _ _ _ h=>h) (Or.inr ⟨by rfl,rfl⟩) (by assumption) ?_
       try simp only[Act.put,sX]
       refine wpAnyH_take (i:=26) (oi:={ dst:=some 124,op:=_,type:=_,pos:=_,after:=_,guard:=_ }) (v:=_) rfl (by kernel_rfl) (by kernel_rfl) (by kernel_rfl) (fun _ _ _ h=>h) (Or.inr ⟨by rfl,rfl⟩) (by assumption) ?_
       try simp only[Act.put,sX]
       refine wpAnyH_take (i:=27) (oi:={ dst:=some 125,op:=_,type:=_,pos:=_,after:=_,guard:=_ }) (v:=_) rfl (by kernel_rfl) (by kernel_rfl) (by kernel_rfl) (fun _ _ _ h=>h) (Or.inr ⟨by rfl,rfl⟩) (by assumption) ?_
       try simp only[Act.put,sX]
       refine wpAnyH_take (i:=28) (oi:={ dst:=some 126,op:=_,type:=_,pos:=_,after:=_,guard:=_ }) (v:=_) rfl (by kernel_rfl) (by kernel_rfl) (by kernel_rfl) (fun _ _ _ h=>h) (Or.inr ⟨by rfl,rfl⟩) (by assumption) ?_
       try simp only[Act.put,sX]
       refine wpAnyH_take (i:=29) (oi:={ dst:=some 127,op:=_,type:=_,pos:=_,after:=_,guard:=_ }) (v:=_) rfl (by kernel_rfl) (by kernel_rfl) (by kernel_rfl) (fun _ _ _ h=>h) (Or.inr ⟨by rfl,rfl⟩) (by assumption) ?_
       try simp only[Act.put,sX]
       refine wpAnyH_take (i:=30) (oi:={ dst:=some 128,op:=_,type:=_,pos:=_,after:=_,guard:=_ }) (v:=_) rfl (by kernel_rfl) (by kernel_rfl) (by kernel_rfl) (fun _ _ _ h=>h) (Or.inr ⟨by rfl,rfl⟩) (by assumption) ?_
       try simp only[Act.put,sX]
       refine wpAnyH_take (i:=31) (oi:={ dst:=some 129,op:=_,type:=_,pos:=_,after:=_,guard:=_ }) (v:=?_) rfl (by kernel_rfl) (by kernel_rfl) (by kernel_rfl) (fun _ _ _ h=>h) (Or.inl ⟨by rfl,?_⟩) (by assumption) ?_
       rotate_left
       ·intro w hSw;(try dsimp only at hSw);go_simp;(try with_reducible rfl)
       try simp only[Act.put,sX]
       refine wpAnyH_done (by kernel_rfl) ?_ _;go_wp2_with fail;have hO:=HJ.out;simp at hO;subst hO;go_ret;exact⟨rfl,f.trans (((Fr.refl [] wr).drew).trans f3)⟩
      cases bX
      all_goals
       go_wp2_with fail
       go_region_held3 (fun w'=>w'.cell? ⟨T,7,none⟩=some (.slice (some ⟨g,og,none⟩) arms.length cc7)∧w'.cell? ⟨T+1,7,none⟩=some (.slice (some ⟨g',og',none⟩) arms.length cc7')∧(w'.cell? ⟨g,og+i * 15,none⟩=some (vI k3)∧w'.cell? ⟨g,og+i * 15+1,none⟩=some (vI a3)∧w'.cell? ⟨g,og+i * 15+2,none⟩=some (vS nm3)∧w'.cell? ⟨g,og+i * 15+3,none⟩=some (vI n3)∧w'.cell? ⟨g,og+i * 15+4,none⟩=some (vS s3)∧w'.cell? ⟨g,og+i * 15+5,none⟩=some (.slice A53 ls3.length cc53)∧w'.cell? ⟨g,og+i * 15+6,none⟩=some (.slice A63 args3.length cc63)∧w'.cell? ⟨g,og+i * 15+7,none⟩=some (vI k2)∧w'.cell? ⟨g,og+i * 15+8,none⟩=some (vI a2)∧w'.cell? ⟨g,og+i * 15+9,none⟩=some (vS nm2)∧w'.cell? ⟨g,og+i * 15+10,none⟩=some (vI n2)∧w'.cell? ⟨g,og+i * 15+11,none⟩=some (vS s2)∧w'.cell? ⟨g,og+i * 15+12,none⟩=some (.slice A52 ls2.length cc52)∧w'.cell? ⟨g,og+i * 15+13,none⟩=some (.slice A62 args2.length cc62)∧w'.cell? ⟨g,og+i * 15+14,none⟩=some (.slice A72 arms2.length cc72))∧(w'.cell? ⟨g',og'+i * 15,none⟩=some (vI k3')∧w'.cell? ⟨g',og'+i * 15+1,none⟩=some (vI a3')∧w'.cell? ⟨g',og'+i * 15+2,none⟩=some (vS nm3')∧w'.cell? ⟨g',og'+i * 15+3,none⟩=some (vI n3')∧w'.cell? ⟨g',og'+i * 15+4,none⟩=some (vS s3')∧w'.cell? ⟨g',og'+i * 15+5,none⟩=some (.slice A53' ls3'.length cc53')∧w'.cell? ⟨g',og'+i * 15+6,none⟩=some (.slice A63' args3'.length cc63')∧w'.cell? ⟨g',og'+i * 15+7,none⟩=some (vI k2')∧w'.cell? ⟨g',og'+i * 15+8,none⟩=some (vI a2')∧w'.cell? ⟨g',og'+i * 15+9,none⟩=some (vS nm2')∧w'.cell? ⟨g',og'+i * 15+10,none⟩=some (vI n2')∧w'.cell? ⟨g',og'+i * 15+11,none⟩=some (vS s2')∧w'.cell? ⟨g',og'+i * 15+12,none⟩=some (.slice A52' ls2'.length cc52')∧w'.cell? ⟨g',og'+i * 15+13,none⟩=some (.slice A62' args2'.length cc62')∧w'.cell? ⟨g',og'+i * 15+14,none⟩=some (.slice A72' arms2'.length cc72'))) (first|go_keep|exact⟨t6,t6',⟨x0,x1,x2,x3,x4,x5,x6,x7,x8,x9,x10,x11,x12,x13,x14⟩,⟨y0,y1,y2,y3,y4,y5,y6,y7,y8,y9,y10,y11,y12,y13,y14⟩⟩) ((first|((with_reducible refine(cP _ ((Fr.refl [] wr).drew)).out.mono ?_);rintro e w3 ⟨rfl,f3⟩;have t6:=Ae ((((Fr.refl [] wr).drew).trans f3).keep q3 nE) 7;have t6':=Ae ((((Fr.refl [] wr).drew).trans f3).keep q4 nE) 7;obtain⟨x0,x1,x2,x3,x4,x5,x6,x7,x8,x9,x10,x11,x12,x13,x14⟩:=Fh hg (f.trans (((Fr.refl [] wr).drew).trans f3)) HC.out;obtain⟨y0,y1,y2,y3,y4,y5,y6,y7,y8,y9,y10,y11,y12,y13,y14⟩:=Fh hg' (f.trans (((Fr.refl [] wr).drew).trans f3)) HC'.out)| ((with_reducible refine(cX _ (((Fr.refl [] wr).drew).trans f3)).out.mono ?_);rintro e w4 ⟨rfl,f4⟩;have t6:=Ae (((((Fr.refl [] wr).drew).trans f3).trans f4).keep q3 nE) 7;have t6':=Ae (((((Fr.refl [] wr).drew).trans f3).trans f4).keep q4 nE) 7;obtain⟨x0,x1,x2,x3,x4,x5,x6,x7,x8,x9,x10,x11,x12,x13,x14⟩:=Fh hg (f.trans ((((Fr.refl [] wr).drew).trans f3).trans f4)) HC.out;obtain⟨y0,y1,y2,y3,y4,y5,y6,y7,y8,y9,y10,y11,y12,y13,y14⟩:=Fh hg' (f.trans ((((Fr.refl [] wr).drew).trans f3).trans f4)) HC'.out)))
       go_wp2_with fail
      ·have hO:=HJ.out;simp at hO;subst hO;go_ret;exact⟨rfl,f.trans ((((Fr.refl [] wr).drew).trans f3).trans f4)⟩
      ·go_roundw
       case rel=>exact⟨i+1,by simp,by omega,fr.trans ((((Fr.refl [] wr).drew).trans f3).trans f4),Hz (by have:=HJ.out;simpa using this)⟩
       case measure=>simp[intOf];omega
     ·have ei:i=arms.length:=by omega
      subst ei;have hO:=HI.out;rw[eqAs_end (Nr' _)] at hO;subst hO;go_wp2_with fail;go_ret;exact⟨rfl,f⟩
theorem Oi:∀ N,SQE N
 | 0=>by intro _ _ _ _ _ _ _ _ _ _ _ _ _ _ _ _ _ _ _ _ _ _ _ _ _ _ _ _ _ _ _ _ h;exact absurd h (Nat.not_lt_zero _)
 | N+1=>eqe_step N (Oi N)
theorem J3(s:ByteArray)(hs:s.size≤9223372036854775807)(w:World)(hV:Dx w):
  Calls prog 18 #[.string s] w fun e w'=>∃ (k a:Int) (nm:LB) (n:Int) (s':LB) (ls:List LB) (args:List Ab) (arms:List (Ak×Ab)) (A5:Option Addr) (c5:Nat) (A6:Option Addr) (c6:Nat) (A7:Option Addr) (c7:Nat) (er at_:Int),
   e = .returned (.tuple #[.agg #[vI k,vI a,vS nm,vI n,vS s',.slice A5 ls.length c5,.slice A6 args.length c6,.slice A7 arms.length c7],vI er,vI at_])∧Aj w' (fun b=>b<w'.heap.size) (.mk k a nm n s' ls args arms) [vI k,vI a,vS nm,vI n,vS s',.slice A5 ls.length c5,.slice A6 args.length c6,.slice A7 arms.length c7]∧PR s.data.toList (.mk k a nm n s' ls args arms) er at_∧Fr [] w w':=by
 refine(Q3 s hs w hV).mono ?_;rintro e w' ⟨k,a,nm,n,s',ls,args,arms,A5,n5,c5,A6,n6,c6,A7,n7,c7,er,at_,rfl,hx,hp,hf⟩
 have hl:n5=ls.length∧n6=args.length∧n7=arms.length:=by
  cases hx with
  | mk c5' c6' cp ce h5 e5 h6 e6 h7 e7 e8=>exact⟨h5.len,h6.len,h7.len⟩
 obtain⟨rfl,rfl,rfl⟩:=hl;exact⟨k,a,nm,n,s',ls,args,arms,A5,c5,A6,c6,A7,c7,er,at_,rfl,hx.keep (fun b _ hb=>⟨hb,rfl,hb⟩),hp,hf⟩
theorem Ox(s:ByteArray)(hs:s.size≤140737488355328)(w:World)(hE:Dx w):
  Calls prog 5 #[.string s] w fun e w'=>e = .returned (.bool true)∧Fr [] w w':=by
 have HE:=Hz hE;have cA:=fun w hE=>Hz (I3 w hE)
 have c1:=fun w hE=>Hz (J3 s (by omega) w hE)
 clear hE;go_enter func5,ntmps5;go_wp2_with fail;refine(cA _ HE.out).out.mono ?_;rintro e w1 ⟨rfl,f1⟩;go_wp2_with fail;refine(c1 _ (HE.out.fr f1)).out.mono ?_;rintro e w2 ⟨k1,a1,nm1,n1,s1,ls1,args1,arms1,A51,c51,A61,c61,A71,c71,er1,at1,rfl,hx1,hpr,f2⟩;have f3:=f1.trans f2;by_cases h0:er1=0
 ·subst h0;have HP:=Hz hpr;have fb:=(Fr.refl [] w2).alloc (.cells #[vI k1,vI a1,vS nm1,vI n1,vS s1,.slice A51 ls1.length c51,.slice A61 args1.length c61,.slice A71 arms1.length c71] 35);have HX:=Hz (hx1.fr fb);have q1:=Ad w2 (.cells #[vI k1,vI a1,vS nm1,vI n1,vS s1,.slice A51 ls1.length c51,.slice A61 args1.length c61,.slice A71 arms1.length c71] 35);have c2:=fun w hV hx=>Hz (Hq k1 a1 nm1 n1 s1 ls1 args1 arms1 A51 A61 A71 c51 c61 c71 w hV hx (by have:=(S5 HP.out).2.1;omega) (pr_sw HP.out))
  have hrs:=Xt HP.out;have hla:=HP.out.la;clear hpr hx1;go_wp2_with fail
  generalize w2.alloc (.cells #[vI k1,vI a1,vS nm1,vI n1,vS s1,.slice A51 ls1.length c51,.slice A61 args1.length c61,.slice A71 arms1.length c71] 35)=y1 at *
  generalize w2.heap.size=T1 at *
  refine(c2 _ (HE.out.fr (f3.trans fb)) HX.out).out.mono ?_;rintro e w4 ⟨he,f4⟩;have F:=(f3.trans fb).trans f4;replace HX:=Hz (HX.out.fr f4);replace q1:=f4.keep q1 nE;clear f1 f2 f3 fb f4
  rcases hrs with hr|⟨hr,hy⟩
  ·rw[hr] at he;subst he;clear hr;go_wp2_with fail;go_ret;exact⟨rfl,F⟩
  ·have HY:=Hz hy;have hlen:=(Iz hr).2.2.1;rw[hr] at he;subst he;have c3:=fun w hE=>Hz (J3 ⟨(txE (.mk k1 a1 nm1 n1 s1 ls1 args1 arms1)).toArray⟩ (by simp[ByteArray.size];omega) w hE)
   generalize txE (.mk k1 a1 nm1 n1 s1 ls1 args1 arms1)=t at *
   clear hr hy hlen;go_wp2_with fail;refine(c3 _ (HE.out.fr F)).out.mono ?_;rintro e w5 ⟨k2,a2,nm2,n2,s2,ls2,args2,arms2,A52,c52,A62,c62,A72,c72,er2,at2,rfl,hx2,hpr2,f5⟩;obtain⟨rfl,hsm⟩:=HY.out _ _ _ hpr2;have hla2:=hpr2.la;have fb:=(Fr.refl [] w5).alloc (.cells #[vI k2,vI a2,vS nm2,vI n2,vS s2,.slice A52 ls2.length c52,.slice A62 args2.length c62,.slice A72 arms2.length c72] 35);have HX2:=Hz (hx2.fr fb);replace HX:=Hz ((HX.out.fr f5).fr fb);replace q1:=f5.keep q1 nE;have hT1:=Aa q1;obtain⟨⟨l0,l1,l2,l3,l4,l5,l6,l7⟩,_⟩:=Ac q1;have cQ:=fun w h1 h2=>Hz (Oi _ k1 a1 nm1 n1 s1 ls1 args1 arms1 A51 A61 A71 c51 c61 c71 k2 a2 nm2 n2 s2 ls2 args2 arms2 A52 A62 A72 c52 c62 c72 false w (fun b=>b<w.heap.size) (fun b=>b<w.heap.size) (Nat.lt_succ_self _) hla hla2 h1 h2)
   rw[(Sn _ _).2 hsm] at cQ;clear hpr2 hx2 hsm HY;go_wp2_with fail;refine(cQ _ HX.out HX2.out).out.mono ?_;rintro e w6 ⟨rfl,f6⟩;go_wp2_with fail;go_ret;exact⟨rfl,((F.trans f5).trans fb).trans f6⟩
 ·have hb:(er1 != 0)=true:=bne_iff_ne.2 h0;clear h0;go_wp2_with fail;go_ret;exact⟨rfl,f3.alloc _⟩
end
end Go.Proofs.YtabhpdhajajoiaaGreatDoor
