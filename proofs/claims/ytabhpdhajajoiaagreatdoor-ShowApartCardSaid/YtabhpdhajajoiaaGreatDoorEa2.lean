/- A part of the proof: Yd, Xl, Hp, Xc. -/
import Derived.BigQuiet
import Derived.Deep.DrawnRows
import Derived.Deep.RegionHeld3
import Derived.Test.YtabhpdhajajoiaaGreatDoorEa1
namespace Go.Proofs.YtabhpdhajajoiaaGreatDoor
open Go.RowKit
open _root_.Go.Proofs.Tryz
set_option linter.all false
set_option maxHeartbeats 16000000
set_option maxRecDepth 100000
open List renaming length_cons→Lc',getElem?_eq_getElem→Lg'
open Bool renaming and_eq_true→Ba'
theorem Ui{pl:Bool}:∀ {l m:List Ab},Lv pl l m=true↔∀ (i:Nat)(x y:Ab),l[i]?=some x→m[i]?=some y→eqE pl x y=true
 | [],m=>⟨fun _ i x y h=>by simp at h,fun _=>by rw[Lv]⟩
 | x::l,[]=>⟨fun _ i x y _ h=>by simp at h,fun _=>by rw[Lv]⟩
 | x::l,y::m=>by
  rw[Lv,Ba',Ui];constructor
  ·rintro⟨h1,h2⟩ i u v hu hv
   cases i with
   | zero=>cases hu;cases hv;exact h1
   | succ i=>exact h2 i u v (by simpa using hu) (by simpa using hv)
  ·intro h;exact⟨h 0 x y rfl rfl,fun i u v hu hv=>h (i+1) u v (by simpa using hu) (by simpa using hv)⟩
theorem Uh{pl:Bool}:∀ {l m:List (Ak×Ab)},Km pl l m=true↔∀ (i:Nat)(p q:Ak)(x y:Ab),l[i]?=some (p,x)→m[i]?=some (q,y)→eqP pl p q=true∧eqE pl x y=true
 | [],m=>⟨fun _ i p q x y h=>by simp at h,fun _=>by rw[Km]⟩
 | x::l,[]=>⟨fun _ i p q x y _ h=>by simp at h,fun _=>by rw[Km]⟩
 | (p,x)::l,(q,y)::m=>by
  rw[Km,eqA,Ba',Ba',Uh];constructor
  ·rintro⟨h1,h2⟩ i u1 v1 u v hu hv
   cases i with
   | zero=>cases hu;cases hv;exact h1
   | succ i=>exact h2 i u1 v1 u v (by simpa using hu) (by simpa using hv)
  ·intro h;exact⟨h 0 p q x y rfl rfl,fun i u1 v1 u v hu hv=>h (i+1) u1 v1 u v (by simpa using hu) (by simpa using hv)⟩
theorem Jj:∀ (N:Nat)(x y:Ab),szE x<N→(eqE false x y=true↔Bl x y)
 | 0,_,_,h=>absurd h (Nat.not_lt_zero _)
 | N+1,.mk k a nm n s ls args arms,.mk k' a' nm' n' s' ls' args' arms',h=>by
  have hs:szE (.mk k a nm n s ls args arms)=1+(B1 args+Cd arms):=by simp[szE]
  rw[eqE_mk];simp only[Ba',Ui,Uh,beq_iff_eq,Bool.not_false,Bool.true_or,and_true];constructor
  ·rintro⟨⟨⟨⟨⟨⟨⟨⟨rfl,rfl⟩,rfl⟩,rfl⟩,rfl⟩,hl⟩,hl2⟩,hh⟩,hm⟩;exact .mk hl (fun i u v hu hv=>(Jj N u v (by have:=Et hu;omega)).1 (hh i u v hu hv)) hl2 (fun i p q u v hu hv=>(Jk _ p q (Nat.lt_succ_self _)).1 (hm i p q u v hu hv).1) (fun i p q u v hu hv=>(Jj N u v (by have:=Fd hu;omega)).1 (hm i p q u v hu hv).2)
  ·intro hh
   cases hh with
   | mk hl hh hl2 hp hx=>exact⟨⟨⟨⟨⟨⟨⟨⟨rfl,rfl⟩,rfl⟩,rfl⟩,rfl⟩,hl⟩,hl2⟩,fun i u v hu hv=>(Jj N u v (by have:=Et hu;omega)).2 (hh i u v hu hv)⟩,fun i p q u v hu hv=>⟨(Jk _ p q (Nat.lt_succ_self _)).2 (hp i p q u v hu hv),(Jj N u v (by have:=Fd hu;omega)).2 (hx i p q u v hu hv)⟩⟩
theorem Sn(x y:Ab):eqE false x y=true↔Bl x y:=Jj _ x y (Nat.lt_succ_self _)
section
attribute [local go_sem ↓] Go.wp_at_zero Go.wp_at_succ
def LPC(N:Nat):Prop:=∀ (k a:Int)(nm:LB)(n:Int)(s:LB)(ls:List LB)(args:List Ak)(A5 A6:Option Addr)(c5 c6:Nat)(left:Int)(w:World)(ok:Nat→Prop),szP (.mk k a nm n s ls args)<N→WtP (.mk k a nm n s ls args)→Bd w ok (.mk k a nm n s ls args) [vI k,vI a,vS nm,vI n,vS s,.slice A5 ls.length c5,.slice A6 args.length c6]→-4503599627370496≤left→left≤65536 →
  Calls prog 13 #[.agg #[vI k,vI a,vS nm,vI n,vS s,.slice A5 ls.length c5,.slice A6 args.length c6],vI left] w fun e w'=>e = .returned (vI (Dd (.mk k a nm n s ls args) left))∧Fr [] w w'
theorem Xc(N:Nat)(ih:LPC N):LPC (N+1):=by
 intro k a nm n s ls args A5 A6 c5 c6 left w ok hN hW hx hlo hhi
 cases hW with
 | mk hk h1 h2 h3 h4 h5' h6' =>
 cases hx with
 | mk d5 d6 h5 e5 h6 e6 =>
 rw[show szP (.mk k a nm n s ls args)=1+Ey args by simp[szP]] at hN;have HN:=Hz hN;have IH:=Hz ih;have H5:=Hz h5;have H6:=Hz h6;have E5:Hid (∀ (i:Nat) (x:LB),ls[i]?=some x→d5 i=Of x):=Hz e5;have E6:Hid (∀ (i:Nat) (x:Ak),args[i]?=some x→Bd w ok x (d6 i)):=Hz e6;have H4:=Hz h4;have HW6:Hid (∀ (i:Nat) (x:Ak),args[i]?=some x→WtP x):=Hz h6';have b1:(nm.length:Int)≤140737488351232:=by unfold reachBytes at h1;omega
 have b2:(s.length:Int)≤140737488351232:=by unfold reachBytes at h2;omega
 have b3:(ls.length:Int)≤140737488351232:=by unfold reachBytes at h3;omega
 have b4:(args.length:Int)≤140737488351232:=by unfold reachBytes at h5';omega
 obtain⟨R,hR⟩:∃ R,Dd (.mk k a nm n s ls args) left=R:=⟨_,rfl⟩
 rw[hR];have HR:Hid (Dh (args.drop 0) (Cj (ls.drop 0) (left-(nm.length+s.length+1)))=R):=Hz (by rw[← hR,Dd];rfl);have f0:=(Fr.refl [] w).alloc (.cells #[vI k,vI a,vS nm,vI n,vS s,.slice A5 ls.length c5,.slice A6 args.length c6] 25);have q0:=Ad w (.cells #[vI k,vI a,vS nm,vI n,vS s,.slice A5 ls.length c5,.slice A6 args.length c6] 25);clear hN ih h5 e5 h6 e6 h1 h2 h3 h4 h5' h6' hk hR;go_enter func13,ntmps13;go_wp2_with fail
 generalize w.alloc (.cells #[vI k,vI a,vS nm,vI n,vS s,.slice A5 ls.length c5,.slice A6 args.length c6] 25)=x at *
 generalize hT:w.heap.size=T at *
 go_loopw [1,5] (fun lv iv wr=>∃ (i:Nat) (L:Int),lv=vI L∧iv=vI i∧i≤ls.length∧-9007199254740992≤L∧L≤65536∧Hid (Dh (args.drop 0) (Cj (ls.drop i) L)=R)∧wr=x) (fun lv iv wr=>ls.length-(intOf iv).toNat)
 case atStart=>exact⟨0,_,rfl,rfl,by omega,by omega,by omega,HR,rfl⟩
 case round =>
  obtain⟨i,L,rfl,rfl,hi,hl1,hl2,HI,rfl⟩:=hrel;clear HR;obtain⟨⟨l0,l1,l2,l3,l4,l5,l6⟩,_⟩:=Aq q0;have q1:(0:Int)≤(i:Int):=by omega
  by_cases hlt:i<ls.length∧0<L
  ·obtain⟨hlt,hL⟩:=hlt
   obtain⟨y,hy⟩:∃ y,ls[i]?=some y:=⟨ls[i],Lg' hlt⟩
   obtain⟨g,og,rfl,_,hg,_,_,hc⟩:=H5.out.row hlt;rw[E5.out i y hy] at hc;have x0:wr.cell? ⟨g,og+i,none⟩=some (vS y):=(f0.cell (p:=⟨g,og+i,none⟩) hg (fun x=>by cases x)).trans (by have:=hc 0 _ rfl;simpa using this);have hyl:(y.length:Int)≤140737488351232:=by have:=H4.out i y hy;unfold reachBytes at this;omega
   have hI:=HI.out;rw[Rl hy L hL] at hI;have HJ:=Hz hI;clear hc hy hI HI;have q2:(i:Int)<(ls.length:Int):=by omega
   go_wp2_with fail
   go_roundw
   case rel=>exact⟨i+1,_,rfl,by simp,by omega,by omega,by omega,HJ,(by first|rfl|trivial)⟩
   case measure=>simp[intOf];omega
  ·have HQ:Hid (Dh (args.drop 0) L=R):=Hz (by
    have:=HI.out
    by_cases h:i<ls.length
    ·rwa [Lg _ _ (by omega)] at this
    ·rwa [List.drop_eq_nil_of_le (show ls.length≤i by omega)] at this)
   clear HI;have hcc:¬ (i:Int)<(ls.length:Int)∨((i:Int)<(ls.length:Int)∧¬ 0<L):=by omega
   clear hlt
   rcases hcc with h1|⟨h1,h2⟩
   all_goals
    go_wp2_with fail
    try clear h2
    clear h1 q1 l0 l1 l2 l3 l4 l5 l6 hi
    have hw5:∃ w5,w5=wr:=⟨_,rfl⟩
    obtain⟨w5,hw5⟩:=hw5;subst hw5
    go_loopw [1,6] (fun lv iv wq=>∃ (i:Nat) (L:Int),lv=vI L∧iv=vI i∧i≤args.length∧L≤65536∧Hid (Dh (args.drop i) L=R)∧Fr [] w5 wq) (fun lv iv wq=>args.length-(intOf iv).toNat)
    case atStart=>exact⟨0,L,rfl,rfl,by omega,hl2,HQ,Fr.refl _ _⟩
    case round =>
     obtain⟨i,L,rfl,rfl,hi,hl2,HI,fr⟩:=hrel;clear HQ;have q1:(0:Int)≤(i:Int):=by omega
     have q3:=fr.keep q0 nE;obtain⟨⟨l0,l1,l2,l3,l4,l5,l6⟩,_⟩:=Aq q3;by_cases hlt:i<args.length∧0<L
     ·obtain⟨hlt,hL⟩:=hlt
      obtain⟨y,hy⟩:∃ y,args[i]?=some y:=⟨args[i],Lg' hlt⟩
      obtain⟨g,og,rfl,_,hg,_,_,hc⟩:=H6.out.row hlt;have hI:=HI.out;rw[longPs_at hy L hL] at hI;have hyy:=E6.out i y hy;have hwy:=HW6.out i y hy;have hzy:=Gz hy;have hle:=Is y L
      generalize d6 i=di at *
      have hyw:=hyy.keep (w':=wr) (ok':=ok) (Sh.of_fr (f0.trans fr) (fun b hb _=>⟨hb,fun x=>by cases x⟩))
      cases hyy with
      | @mk k2 a2 nm2 n2 s2 ls2 args2 v5 v6 _ _ r5 _ r6 _ =>
      obtain⟨A52,cc52,rfl⟩:=r5.form;obtain⟨A62,cc62,rfl⟩:=r6.form;clear r5 r6;have cX:=Hz (IH.out k2 a2 nm2 n2 s2 ls2 args2 A52 A62 cc52 cc62 L wr ok (by have:=HN.out;omega) hwy hyw (by omega) hl2);obtain⟨x0,x1,x2,x3,x4,x5,x6⟩:=Vs hg (f0.trans fr) hc;have HJ:=Hz hI
      generalize Dd (.mk k2 a2 nm2 n2 s2 ls2 args2) L=L2 at *
      clear hc hy hI HI hwy hyw hzy;have q2:(i:Int)<(args.length:Int):=by omega
      go_wp2_with fail;refine cX.out.mono ?_;rintro e w6 ⟨rfl,f6⟩;go_wp2_with fail
      go_roundw
      case rel=>exact⟨i+1,_,rfl,by simp,by omega,by omega,HJ,fr.trans f6⟩
      case measure=>simp[intOf];omega
     ·have hQ:L=R:=by
       have:=HI.out;by_cases h:i<args.length
       ·rwa [Pv _ _ (by omega)] at this
       ·rwa [List.drop_eq_nil_of_le (show args.length≤i by omega)] at this
      subst hQ;clear HI;have hcc:¬ (i:Int)<(args.length:Int)∨((i:Int)<(args.length:Int)∧¬ 0<L):=by omega
      clear hlt
      rcases hcc with h1|⟨h1,h2⟩
      all_goals
       go_wp2_with fail;go_ret;exact⟨rfl,f0.trans fr⟩
theorem Mu:∀ N,LPC N
 | 0=>by intro _ _ _ _ _ _ _ _ _ _ _ _ _ _ h;exact absurd h (Nat.not_lt_zero _)
 | N+1=>Xc N (Mu N)
def LEC(N:Nat):Prop:=∀ (k a:Int)(nm:LB)(n:Int)(s:LB)(ls:List LB)(args:List Ab)(arms:List (Ak×Ab))(A5 A6 A7:Option Addr)(c5 c6 c7:Nat)(left:Int)(w:World)(ok:Nat→Prop),szE (.mk k a nm n s ls args arms)<N→WtE (.mk k a nm n s ls args arms)→Aj w ok (.mk k a nm n s ls args arms) [vI k,vI a,vS nm,vI n,vS s,.slice A5 ls.length c5,.slice A6 args.length c6,.slice A7 arms.length c7]→-4503599627370496≤left→left≤65536 →
  Calls prog 16 #[.agg #[vI k,vI a,vS nm,vI n,vS s,.slice A5 ls.length c5,.slice A6 args.length c6,.slice A7 arms.length c7],vI left] w fun e w'=>e = .returned (vI (Dq (.mk k a nm n s ls args arms) left))∧Fr [] w w'
theorem Xa(N:Nat)(ih:LEC N):LEC (N+1):=by
 intro k a nm n s ls args arms A5 A6 A7 c5 c6 c7 left w ok hN hW hx hlo hhi
 cases hW with
 | mk hk h1 h2 h3 h4 h5' h6' h7' h8' h9' =>
 cases hx with
 | mk d5 d6 dp de h5 e5 h6 e6 h7 e7 e8 =>
 rw[show szE (.mk k a nm n s ls args arms)=1+(B1 args+Cd arms) by simp[szE]] at hN;have HN:=Hz hN;have IH:=Hz ih;have H5:=Hz h5;have H6:=Hz h6;have H7:=Hz h7;have E5:Hid (∀ (i:Nat) (x:LB),ls[i]?=some x→d5 i=Of x):=Hz e5;have E6:Hid (∀ (i:Nat) (x:Ab),args[i]?=some x→Aj w ok x (d6 i)):=Hz e6;have E7:Hid (∀ (i:Nat) (p:Ak) (x:Ab),arms[i]?=some (p,x)→Bd w ok p (dp i)):=Hz e7;have E8:Hid (∀ (i:Nat) (p:Ak) (x:Ab),arms[i]?=some (p,x)→Aj w ok x (de i)):=Hz e8;have H4:=Hz h4;have HW6:Hid (∀ (i:Nat) (x:Ab),args[i]?=some x→WtE x):=Hz h6';have HW8:=Hz h8';have HW9:=Hz h9';have b1:(nm.length:Int)≤140737488351232:=by unfold reachBytes at h1;omega
 have b2:(s.length:Int)≤140737488351232:=by unfold reachBytes at h2;omega
 have b3:(ls.length:Int)≤140737488351232:=by unfold reachBytes at h3;omega
 have b4:(args.length:Int)≤140737488351232:=by unfold reachBytes at h5';omega
 have b5:(arms.length:Int)≤140737488351232:=by unfold reachBytes at h7';omega
 obtain⟨R,hR⟩:∃ R,Dq (.mk k a nm n s ls args arms) left=R:=⟨_,rfl⟩
 rw[hR];have HR:Hid (Dt (arms.drop 0) (Dg (args.drop 0) (Cj (ls.drop 0) (left-(nm.length+s.length+1))))=R):=Hz (by rw[← hR,Dq];rfl);have f0:=(Fr.refl [] w).alloc (.cells #[vI k,vI a,vS nm,vI n,vS s,.slice A5 ls.length c5,.slice A6 args.length c6,.slice A7 arms.length c7] 35);have q0:=Ad w (.cells #[vI k,vI a,vS nm,vI n,vS s,.slice A5 ls.length c5,.slice A6 args.length c6,.slice A7 arms.length c7] 35);clear hN ih h5 e5 h6 e6 h7 e7 e8 h1 h2 h3 h4 h5' h6' h7' h8' h9' hk hR;go_enter func16,ntmps16;go_wp2_with fail
 generalize w.alloc (.cells #[vI k,vI a,vS nm,vI n,vS s,.slice A5 ls.length c5,.slice A6 args.length c6,.slice A7 arms.length c7] 35)=x at *
 generalize hT:w.heap.size=T at *
 go_loopw [1,5] (fun lv iv wr=>∃ (i:Nat) (L:Int),lv=vI L∧iv=vI i∧i≤ls.length∧-9007199254740992≤L∧L≤65536∧Hid (Dt (arms.drop 0) (Dg (args.drop 0) (Cj (ls.drop i) L))=R)∧wr=x) (fun lv iv wr=>ls.length-(intOf iv).toNat)
 case atStart=>exact⟨0,_,rfl,rfl,by omega,by omega,by omega,HR,rfl⟩
 case round =>
  obtain⟨i,L,rfl,rfl,hi,hl1,hl2,HI,rfl⟩:=hrel;clear HR;obtain⟨⟨l0,l1,l2,l3,l4,l5,l6,l7⟩,_⟩:=Ac q0;have q1:(0:Int)≤(i:Int):=by omega
  by_cases hlt:i<ls.length∧0<L
  ·obtain⟨hlt,hL⟩:=hlt
   obtain⟨y,hy⟩:∃ y,ls[i]?=some y:=⟨ls[i],Lg' hlt⟩
   obtain⟨g,og,rfl,_,hg,_,_,hc⟩:=H5.out.row hlt;rw[E5.out i y hy] at hc;have x0:wr.cell? ⟨g,og+i,none⟩=some (vS y):=(f0.cell (p:=⟨g,og+i,none⟩) hg (fun x=>by cases x)).trans (by have:=hc 0 _ rfl;simpa using this);have hyl:(y.length:Int)≤140737488351232:=by have:=H4.out i y hy;unfold reachBytes at this;omega
   have hI:=HI.out;rw[Rl hy L hL] at hI;have HJ:=Hz hI;clear hc hy hI HI;have q2:(i:Int)<(ls.length:Int):=by omega
   go_wp2_with fail
   go_roundw
   case rel=>exact⟨i+1,_,rfl,by simp,by omega,by omega,by omega,HJ,(by first|rfl|trivial)⟩
   case measure=>simp[intOf];omega
  ·have HQ:Hid (Dt (arms.drop 0) (Dg (args.drop 0) L)=R):=Hz (by
    have:=HI.out
    by_cases h:i<ls.length
    ·rwa [Lg _ _ (by omega)] at this
    ·rwa [List.drop_eq_nil_of_le (show ls.length≤i by omega)] at this)
   clear HI;have hcc:¬ (i:Int)<(ls.length:Int)∨((i:Int)<(ls.length:Int)∧¬ 0<L):=by omega
   clear hlt
   rcases hcc with h1|⟨h1,h2⟩
   all_goals
    go_wp2_with fail
    try clear h2
    clear h1 q1 l0 l1 l2 l3 l4 l5 l6 l7 hi
    have hw5:∃ w5,w5=wr:=⟨_,rfl⟩
    obtain⟨w5,hw5⟩:=hw5;subst hw5
    go_loopw [1,6] (fun lv iv wq=>∃ (i:Nat) (L:Int),lv=vI L∧iv=vI i∧i≤args.length∧L≤65536∧Hid (Dt (arms.drop 0) (Dg (args.drop i) L)=R)∧Fr [] w5 wq) (fun lv iv wq=>args.length-(intOf iv).toNat)
    case atStart=>exact⟨0,L,rfl,rfl,by omega,hl2,HQ,Fr.refl _ _⟩
    case round =>
     obtain⟨i,L,rfl,rfl,hi,hl2,HI,fr⟩:=hrel;clear HQ;have q1:(0:Int)≤(i:Int):=by omega
     have q3:=fr.keep q0 nE;obtain⟨⟨l0,l1,l2,l3,l4,l5,l6,l7⟩,_⟩:=Ac q3;by_cases hlt:i<args.length∧0<L
     ·obtain⟨hlt,hL⟩:=hlt
      obtain⟨y,hy⟩:∃ y,args[i]?=some y:=⟨args[i],Lg' hlt⟩
      obtain⟨g,og,rfl,_,hg,_,_,hc⟩:=H6.out.row hlt;have hI:=HI.out;rw[longEs_at hy L hL] at hI;have hyy:=E6.out i y hy;have hwy:=HW6.out i y hy;have hzy:=Et hy;have hle:=Hu y L
      generalize d6 i=di at *
      have hyw:=hyy.keep (w':=wr) (ok':=ok) (Sh.of_fr (f0.trans fr) (fun b hb _=>⟨hb,fun x=>by cases x⟩))
      cases hyy with
      | @mk k2 a2 nm2 n2 s2 ls2 args2 arms2 v5 v6 v7 _ _ _ _ r5 _ r6 _ r7 _ _ =>
      obtain⟨A52,cc52,rfl⟩:=r5.form;obtain⟨A62,cc62,rfl⟩:=r6.form;obtain⟨A72,cc72,rfl⟩:=r7.form;clear r5 r6 r7;have cX:=Hz (IH.out k2 a2 nm2 n2 s2 ls2 args2 arms2 A52 A62 A72 cc52 cc62 cc72 L wr ok (by have:=HN.out;omega) hwy hyw (by omega) hl2);obtain⟨x0,x1,x2,x3,x4,x5,x6,x7⟩:=Pe hg (f0.trans fr) hc;have HJ:=Hz hI
      generalize Dq (.mk k2 a2 nm2 n2 s2 ls2 args2 arms2) L=L2 at *
      clear hc hy hI HI hwy hyw hzy;have q2:(i:Int)<(args.length:Int):=by omega
      go_wp2_with fail;refine cX.out.mono ?_;rintro e w6 ⟨rfl,f6⟩;go_wp2_with fail
      go_roundw
      case rel=>exact⟨i+1,_,rfl,by simp,by omega,by omega,HJ,fr.trans f6⟩
      case measure=>simp[intOf];omega
     ·have HQ3:Hid (Dt (arms.drop 0) L=R):=Hz (by
       have:=HI.out
       by_cases h:i<args.length
       ·rwa [Xb _ _ (by omega)] at this
       ·rwa [List.drop_eq_nil_of_le (show args.length≤i by omega)] at this)
      clear HI;have hcc:¬ (i:Int)<(args.length:Int)∨((i:Int)<(args.length:Int)∧¬ 0<L):=by omega
      clear hlt
      rcases hcc with h1|⟨h1,h2⟩
      all_goals
       go_wp2_with fail
       try clear h2
       clear h1 q1 l0 l1 l2 l3 l4 l5 l6 l7 hi
       have hw7:∃ w7,w7=wr:=⟨_,rfl⟩
       obtain⟨w7,hw7⟩:=hw7;subst hw7;replace f0:=f0.trans fr;replace q0:=q3;clear fr q3
       go_loopw [1,7] (fun lv iv wq=>∃ (i:Nat) (L:Int),lv=vI L∧iv=vI i∧i≤arms.length∧L≤65536∧Hid (Dt (arms.drop i) L=R)∧Fr [] w7 wq) (fun lv iv wq=>arms.length-(intOf iv).toNat)
       case atStart=>exact⟨0,L,rfl,rfl,by omega,hl2,HQ3,Fr.refl _ _⟩
       case round =>
        obtain⟨i,L,rfl,rfl,hi,hl2,HI,fr⟩:=hrel;clear HQ3;have q1:(0:Int)≤(i:Int):=by omega
        have q3:=fr.keep q0 nE;obtain⟨⟨l0,l1,l2,l3,l4,l5,l6,l7⟩,_⟩:=Ac q3;by_cases hlt:i<arms.length∧0<L
        ·obtain⟨hlt,hL⟩:=hlt
         obtain⟨p,y,hy⟩:∃ p y,arms[i]?=some (p,y):=⟨(arms[i]).1,(arms[i]).2,Lg' hlt⟩
         obtain⟨g,og,rfl,_,hg,_,_,hc⟩:=H7.out.row hlt;have hI:=HI.out;rw[longAs_at hy L hL] at hI;have hpp:=E7.out i p y hy;have hyy:=E8.out i p y hy;have hwp:=HW8.out i p y hy;have hwy:=HW9.out i p y hy;have hzy:=Fd hy;have hle1:=Is p L;have hlo1:=(U7 p L hwp).1 hL;have hle2:=Hu y (Dd p L);unfold LW at hlo1
         try dsimp only at hc
         generalize dp i=dpi at *
         generalize de i=di at *
         have hyw:=fun W (hW:Fr [] wr W)=>hyy.keep (w':=W) (ok':=ok) (Sh.of_fr ((f0.trans fr).trans hW) (fun b hb _=>⟨hb,fun x=>by cases x⟩))
         have hpw:=fun W (hW:Fr [] wr W)=>hpp.keep (w':=W) (ok':=ok) (Sh.of_fr ((f0.trans fr).trans hW) (fun b hb _=>⟨hb,fun x=>by cases x⟩))
         cases hyy with
         | @mk k2 a2 nm2 n2 s2 ls2 args2 arms2 v5 v6 v7 _ _ _ _ r5 _ r6 _ r7 _ _ =>
         obtain⟨A52,cc52,rfl⟩:=r5.form;obtain⟨A62,cc62,rfl⟩:=r6.form;obtain⟨A72,cc72,rfl⟩:=r7.form;clear r5 r6 r7
         cases hpp with
         | @mk k3 a3 nm3 n3 s3 ls3 args3 v5 v6 _ _ r5 _ r6 _ =>
         obtain⟨A53,cc53,rfl⟩:=r5.form;obtain⟨A63,cc63,rfl⟩:=r6.form;clear r5 r6;have HC:=Hz hc;have cP:=fun W (hW:Fr [] wr W)=>Hz (Mu _ k3 a3 nm3 n3 s3 ls3 args3 A53 A63 cc53 cc63 L W ok (Nat.lt_succ_self _) hwp (hpw W hW) (by omega) hl2)
         have cX:=fun W (hW:Fr [] wr W)=>Hz (IH.out k2 a2 nm2 n2 s2 ls2 args2 arms2 A52 A62 A72 cc52 cc62 cc72 (Dd (.mk k3 a3 nm3 n3 s3 ls3 args3) L) W ok (by have:=HN.out;omega) hwy (hyw W hW) (by omega) (by omega))
         obtain⟨x0,x1,x2,x3,x4,x5,x6,x7,x8,x9,x10,x11,x12,x13,x14⟩:=Fh hg (f0.trans fr) hc;have HJ:=Hz hI
         generalize Dq (.mk k2 a2 nm2 n2 s2 ls2 args2 arms2) (Dd (.mk k3 a3 nm3 n3 s3 ls3 args3) L)=L2 at *
         generalize Dd (.mk k3 a3 nm3 n3 s3 ls3 args3) L=L1 at *
         clear hc hy hI HI hwy hwp hyw hpw hzy l0 l1 l2 l3 l4 l5 l6;have q2:(i:Int)<(arms.length:Int):=by omega
         go_wp2_with fail
         go_region_held3 (fun w'=>w'.cell? ⟨T,7,none⟩=some (.slice (some ⟨g,og,none⟩) arms.length c7)∧(w'.cell? ⟨g,og+i * 15,none⟩=some (vI k3)∧w'.cell? ⟨g,og+i * 15+1,none⟩=some (vI a3)∧w'.cell? ⟨g,og+i * 15+2,none⟩=some (vS nm3)∧w'.cell? ⟨g,og+i * 15+3,none⟩=some (vI n3)∧w'.cell? ⟨g,og+i * 15+4,none⟩=some (vS s3)∧w'.cell? ⟨g,og+i * 15+5,none⟩=some (.slice A53 ls3.length cc53)∧w'.cell? ⟨g,og+i * 15+6,none⟩=some (.slice A63 args3.length cc63)∧w'.cell? ⟨g,og+i * 15+7,none⟩=some (vI k2)∧w'.cell? ⟨g,og+i * 15+8,none⟩=some (vI a2)∧w'.cell? ⟨g,og+i * 15+9,none⟩=some (vS nm2)∧w'.cell? ⟨g,og+i * 15+10,none⟩=some (vI n2)∧w'.cell? ⟨g,og+i * 15+11,none⟩=some (vS s2)∧w'.cell? ⟨g,og+i * 15+12,none⟩=some (.slice A52 ls2.length cc52)∧w'.cell? ⟨g,og+i * 15+13,none⟩=some (.slice A62 args2.length cc62)∧w'.cell? ⟨g,og+i * 15+14,none⟩=some (.slice A72 arms2.length cc72))) (first|go_keep|exact⟨l7,⟨x0,x1,x2,x3,x4,x5,x6,x7,x8,x9,x10,x11,x12,x13,x14⟩⟩) ((first|((with_reducible refine(cP _ ((Fr.refl [] wr).drew)).out.mono ?_);rintro e w3 ⟨rfl,f3⟩;have l7:=Ae ((((Fr.refl [] wr).drew).trans f3).keep q3 nE) 7;obtain⟨x0,x1,x2,x3,x4,x5,x6,x7,x8,x9,x10,x11,x12,x13,x14⟩:=Fh hg ((f0.trans fr).trans (((Fr.refl [] wr).drew).trans f3)) HC.out)| ((with_reducible refine(cX _ (((Fr.refl [] wr).drew).trans f3)).out.mono ?_);rintro e w4 ⟨rfl,f4⟩;have l7:=Ae (((((Fr.refl [] wr).drew).trans f3).trans f4).keep q3 nE) 7;obtain⟨x0,x1,x2,x3,x4,x5,x6,x7,x8,x9,x10,x11,x12,x13,x14⟩:=Fh hg ((f0.trans fr).trans ((((Fr.refl [] wr).drew).trans f3).trans f4)) HC.out)))
         go_wp2_with fail
         go_roundw
         case rel=>exact⟨i+1,_,rfl,by simp,by omega,by omega,HJ,fr.trans ((((Fr.refl [] wr).drew).trans f3).trans f4)⟩
         case measure=>simp[intOf];omega
        ·have hQ:L=R:=by
          have:=HI.out;by_cases h:i<arms.length
          ·rwa [W9 _ _ (by omega)] at this
          ·rwa [List.drop_eq_nil_of_le (show arms.length≤i by omega)] at this
         subst hQ;clear HI;have hcc:¬ (i:Int)<(arms.length:Int)∨((i:Int)<(arms.length:Int)∧¬ 0<L):=by omega
         clear hlt
         rcases hcc with h1|⟨h1,h2⟩
         all_goals
          go_wp2_with fail;go_ret;exact⟨rfl,f0.trans fr⟩
theorem Ka:∀ N,LEC N
 | 0=>by intro _ _ _ _ _ _ _ _ _ _ _ _ _ _ _ _ _ h;exact absurd h (Nat.not_lt_zero _)
 | N+1=>Xa N (Ka N)
end
theorem Mt:∀ (l:List LB)(n:Int),0<Cj l n→Cj l n+l.length≤n
 | [],n,h=>by rw[Cj];simp
 | y::l,n,h=>by
  rw[Cj] at h ⊢;split at h
  ·rename_i h0
   rw[if_pos h0];have g:=Mt l _ h;rw[Lc']
   push_cast
   omega
  ·omega
mutual
theorem Pu:∀ (x:Ak)(n:Int),0<Dd x n→Dd x n+laP x≤n
 | .mk k a nm m s ls args,n,h=>by
  rw[Dd] at h ⊢;have g1:=Rn args _ h;have g4:=Hk args (Cj ls (n-(nm.length+s.length+1)));have g5:=Mt ls (n-(nm.length+s.length+1)) (by omega);simp only[laP]
  push_cast
  omega
theorem Rn:∀ (l:List Ak)(n:Int),0<Dh l n→Dh l n+Hd l≤n
 | [],n,h=>by rw[Dh];simp[Hd]
 | x::l,n,h=>by
  rw[Dh] at h ⊢;split at h
  ·rename_i h0
   rw[if_pos h0];have g1:=Rn l _ h;have g5:=Hk l (Dd x n);have g3:=Pu x n (by omega);simp only[Hd]
   push_cast
   omega
  ·omega
end
mutual
theorem Jo:∀ (x:Ab)(n:Int),0<Dq x n→Dq x n+laE x≤n
 | .mk k a nm m s ls args arms,n,h=>by
  rw[Dq] at h ⊢;have g4:=Hj args (Cj ls (n-(nm.length+s.length+1)));have g6:=Hi arms (Dg args (Cj ls (n-(nm.length+s.length+1))));have g7:=Rj arms _ h;have g1:=Rk args (Cj ls (n-(nm.length+s.length+1))) (by omega);have g5:=Mt ls (n-(nm.length+s.length+1)) (by omega);simp only[laE]
  push_cast
  omega
theorem Rk:∀ (l:List Ab)(n:Int),0<Dg l n→Dg l n+D7 l≤n
 | [],n,h=>by rw[Dg];simp[D7]
 | x::l,n,h=>by
  rw[Dg] at h ⊢;split at h
  ·rename_i h0
   rw[if_pos h0];have g1:=Rk l _ h;have g5:=Hj l (Dq x n);have g3:=Jo x n (by omega);simp only[D7]
   push_cast
   omega
  ·omega
theorem Rj:∀ (l:List (Ak×Ab))(n:Int),0<Dt l n→Dt l n+D6 l≤n
 | [],n,h=>by rw[Dt];simp[D6]
 | (p,x)::l,n,h=>by
  rw[Dt] at h ⊢;split at h
  ·rename_i h0
   rw[if_pos h0];rw[Pr] at h ⊢;have g0:=Hu x (Dd p n);have g5:=Hi l (Dq x (Dd p n));have g1:=Rj l _ h;have g3:=Jo x (Dd p n) (by omega);have g6:=Pu p n (by omega);simp only[D6,laA]
   push_cast
   omega
  ·omega
end
section
attribute [local go_sem ↓] Go.wp_at_zero Go.wp_at_succ
theorem Ov(k1 a1:Int)(nm1:LB)(n1:Int)(s1:LB)(ls1:List LB)(args1:List Ab)(arms1:List (Ak×Ab))(A51:Option Addr)(z51 c51:Nat)(A61:Option Addr)(z61 c61:Nat)(A71:Option Addr)(z71 c71:Nat)(k2 a2:Int)(nm2:LB)(n2:Int)(s2:LB)(ls2:List LB)(args2:List Ab)(arms2:List (Ak×Ab))(A52:Option Addr)(z52 c52:Nat)(A62:Option Addr)(z62 c62:Nat)(A72:Option Addr)(z72 c72:Nat)(w:World)(hE:Dx w)(hx:Aj w (fun b=>b<w.heap.size) (.mk k1 a1 nm1 n1 s1 ls1 args1 arms1) [vI k1,vI a1,vS nm1,vI n1,vS s1,.slice A51 z51 c51,.slice A61 z61 c61,.slice A71 z71 c71])(hW:WtE (.mk k1 a1 nm1 n1 s1 ls1 args1 arms1))(hy:Aj w (fun b=>b<w.heap.size) (.mk k2 a2 nm2 n2 s2 ls2 args2 arms2) [vI k2,vI a2,vS nm2,vI n2,vS s2,.slice A52 z52 c52,.slice A62 z62 c62,.slice A72 z72 c72])(hW2:WtE (.mk k2 a2 nm2 n2 s2 ls2 args2 arms2)):
  Calls prog 6 #[.agg #[vI k1,vI a1,vS nm1,vI n1,vS s1,.slice A51 z51 c51,.slice A61 z61 c61,.slice A71 z71 c71],.agg #[vI k2,vI a2,vS nm2,vI n2,vS s2,.slice A52 z52 c52,.slice A62 z62 c62,.slice A72 z72 c72]] w fun e w'=>e = .returned (.bool true)∧Fr [] w w':=by
 have hl:z51=ls1.length∧z61=args1.length∧z71=arms1.length:=by
  cases hx with
  | mk c5' c6' cp ce h5 e5 h6 e6 h7 e7 e8=>exact⟨h5.len,h6.len,h7.len⟩
 obtain⟨rfl,rfl,rfl⟩:=hl
 have hl:z52=ls2.length∧z62=args2.length∧z72=arms2.length:=by
  cases hy with
  | mk c5' c6' cp ce h5 e5 h6 e6 h7 e7 e8=>exact⟨h5.len,h6.len,h7.len⟩
 obtain⟨rfl,rfl,rfl⟩:=hl;have HE:=Hz hE;have cA:=fun w hE=>Hz (I3 w hE)
 have fb:=((Fr.refl [] w).alloc (.cells #[vI k1,vI a1,vS nm1,vI n1,vS s1,.slice A51 ls1.length c51,.slice A61 args1.length c61,.slice A71 arms1.length c71] 35)).trans ((Fr.refl [] (w.alloc (.cells #[vI k1,vI a1,vS nm1,vI n1,vS s1,.slice A51 ls1.length c51,.slice A61 args1.length c61,.slice A71 arms1.length c71] 35))).alloc (.cells #[vI k2,vI a2,vS nm2,vI n2,vS s2,.slice A52 ls2.length c52,.slice A62 args2.length c62,.slice A72 arms2.length c72] 35));have HX:=Hz (hx.fr fb);have HX2:=Hz (hy.fr fb);have HW:=Hz hW;have HW2:=Hz hW2;have q1:=Ad w (.cells #[vI k1,vI a1,vS nm1,vI n1,vS s1,.slice A51 ls1.length c51,.slice A61 args1.length c61,.slice A71 arms1.length c71] 35);replace q1:=((Fr.refl [] (w.alloc (.cells #[vI k1,vI a1,vS nm1,vI n1,vS s1,.slice A51 ls1.length c51,.slice A61 args1.length c61,.slice A71 arms1.length c71] 35))).alloc (.cells #[vI k2,vI a2,vS nm2,vI n2,vS s2,.slice A52 ls2.length c52,.slice A62 args2.length c62,.slice A72 arms2.length c72] 35)).keep q1 nE;have q2:=Ad (w.alloc (.cells #[vI k1,vI a1,vS nm1,vI n1,vS s1,.slice A51 ls1.length c51,.slice A61 args1.length c61,.slice A71 arms1.length c71] 35)) (.cells #[vI k2,vI a2,vS nm2,vI n2,vS s2,.slice A52 ls2.length c52,.slice A62 args2.length c62,.slice A72 arms2.length c72] 35);have hT:(w.alloc (.cells #[vI k1,vI a1,vS nm1,vI n1,vS s1,.slice A51 ls1.length c51,.slice A61 args1.length c61,.slice A71 arms1.length c71] 35)).heap.size=w.heap.size+1:=by simp
 rw[hT] at q2;clear hT;have cL:=fun w hx=>Hz (Ka _ k1 a1 nm1 n1 s1 ls1 args1 arms1 A51 A61 A71 c51 c61 c71 65536 w (fun b=>b<w.heap.size) (Nat.lt_succ_self _) HW.out hx (by omega) (by omega))
 have cL2:=fun w hx=>Hz (Ka _ k2 a2 nm2 n2 s2 ls2 args2 arms2 A52 A62 A72 c52 c62 c72 65536 w (fun b=>b<w.heap.size) (Nat.lt_succ_self _) HW2.out hx (by omega) (by omega))
 clear hE hx hW hy hW2;go_enter func6,ntmps6;go_wp2_with fail
 generalize (w.alloc (.cells #[vI k1,vI a1,vS nm1,vI n1,vS s1,.slice A51 ls1.length c51,.slice A61 args1.length c61,.slice A71 arms1.length c71] 35)).alloc (.cells #[vI k2,vI a2,vS nm2,vI n2,vS s2,.slice A52 ls2.length c52,.slice A62 args2.length c62,.slice A72 arms2.length c72] 35)=y1 at *
 generalize w.heap.size=T1 at *
 refine(cA _ (HE.out.fr fb)).out.mono ?_;rintro e w1 ⟨rfl,f1⟩;replace HX:=Hz (HX.out.fr f1);replace q1:=f1.keep q1 nE;replace HX2:=Hz (HX2.out.fr f1);replace q2:=f1.keep q2 nE;have F:=fb.trans f1;clear fb f1;obtain⟨⟨l0,l1,l2,l3,l4,l5,l6,l7⟩,_⟩:=Ac q1;go_wp2_with fail;refine(cL _ HX.out).out.mono ?_;rintro e w2 ⟨rfl,f2⟩;replace HX:=Hz (HX.out.fr f2);replace q1:=f2.keep q1 nE;replace HX2:=Hz (HX2.out.fr f2);replace q2:=f2.keep q2 nE;replace F:=F.trans f2;clear f2 l0 l1 l2 l3 l4 l5 l6 l7;obtain⟨⟨l0,l1,l2,l3,l4,l5,l6,l7⟩,_⟩:=Ac q1;obtain⟨⟨m0,m1,m2,m3,m4,m5,m6,m7⟩,_⟩:=Ac q2;by_cases hlo:Dq (.mk k1 a1 nm1 n1 s1 ls1 args1 arms1) 65536≤0
 ·go_wp2_with fail;go_ret;exact⟨rfl,F⟩
 ·have hla:=Jo _ 65536 (show 0<Dq (.mk k1 a1 nm1 n1 s1 ls1 args1 arms1) 65536 by omega);obtain⟨hsz,hsw⟩:=Ir _ 65536 HW.out (show 0<Dq (.mk k1 a1 nm1 n1 s1 ls1 args1 arms1) 65536 by omega) (by omega);have hla1:laE (.mk k1 a1 nm1 n1 s1 ls1 args1 arms1)≤1099511627776:=by omega
  have cS:=fun w hV hx=>Hz (Hq k1 a1 nm1 n1 s1 ls1 args1 arms1 A51 A61 A71 c51 c61 c71 w hV hx (by omega) hsw)
  generalize Dq (.mk k1 a1 nm1 n1 s1 ls1 args1 arms1) 65536=Z at *
  clear hla hsz cL cA hsw;go_wp2_with fail;refine(cL2 _ HX2.out).out.mono ?_;rintro e w3 ⟨rfl,f2⟩;replace HX:=Hz (HX.out.fr f2);replace q1:=f2.keep q1 nE;replace HX2:=Hz (HX2.out.fr f2);replace q2:=f2.keep q2 nE;replace F:=F.trans f2;clear f2 l0 l1 l2 l3 l4 l5 l6 l7 m0 m1 m2 m3 m4 m5 m6 m7;obtain⟨⟨l0,l1,l2,l3,l4,l5,l6,l7⟩,_⟩:=Ac q1;by_cases hlp:Dq (.mk k2 a2 nm2 n2 s2 ls2 args2 arms2) 65536≤0
  ·go_wp2_with fail;go_ret;exact⟨rfl,F⟩
  ·have hla:=Jo _ 65536 (show 0<Dq (.mk k2 a2 nm2 n2 s2 ls2 args2 arms2) 65536 by omega);obtain⟨hsz,hsw⟩:=Ir _ 65536 HW2.out (show 0<Dq (.mk k2 a2 nm2 n2 s2 ls2 args2 arms2) 65536 by omega) (by omega);have hla2:laE (.mk k2 a2 nm2 n2 s2 ls2 args2 arms2)≤1099511627776:=by omega
   have cS2:=fun w hV hx=>Hz (Hq k2 a2 nm2 n2 s2 ls2 args2 arms2 A52 A62 A72 c52 c62 c72 w hV hx (by omega) hsw)
   generalize Dq (.mk k2 a2 nm2 n2 s2 ls2 args2 arms2) 65536=Z2 at *
   clear hla hsz cL2 hsw;go_wp2_with fail;refine(cS _ (HE.out.fr F) HX.out).out.mono ?_;rintro e w4 ⟨he,f4⟩
   obtain⟨t,g,hr⟩:∃ t g,Fl (.mk k1 a1 nm1 n1 s1 ls1 args1 arms1)=(t,g):=⟨_,_,rfl⟩
   rw[hr] at he;subst he;replace HX:=Hz (HX.out.fr f4);replace q1:=f4.keep q1 nE;replace HX2:=Hz (HX2.out.fr f4);replace q2:=f4.keep q2 nE;replace F:=F.trans f4;clear f4 l0 l1 l2 l3 l4 l5 l6 l7 cS hlo hlp;obtain⟨⟨m0,m1,m2,m3,m4,m5,m6,m7⟩,_⟩:=Ac q2;have HR:=Hz hr;clear hr;go_wp2_with fail;refine(cS2 _ (HE.out.fr F) HX2.out).out.mono ?_;rintro e w5 ⟨he,f4⟩
   obtain⟨t',g',hr'⟩:∃ t g,Fl (.mk k2 a2 nm2 n2 s2 ls2 args2 arms2)=(t,g):=⟨_,_,rfl⟩
   rw[hr'] at he;subst he;replace HX:=Hz (HX.out.fr f4);replace q1:=f4.keep q1 nE;replace HX2:=Hz (HX2.out.fr f4);replace q2:=f4.keep q2 nE;replace F:=F.trans f4;clear f4 m0 m1 m2 m3 m4 m5 m6 m7 cS2;by_cases h0:g=0
   ·subst h0;by_cases h1:g'=0
    ·subst h1
     have hq:eqE false (.mk k1 a1 nm1 n1 s1 ls1 args1 arms1) (.mk k2 a2 nm2 n2 s2 ls2 args2 arms2)=(t==t'):=by
      rw[Bool.eq_iff_iff,Sn,beq_iff_eq];exact(Wh HR.out hr').symm
     have cQ:=fun w h1 h2=>Hz (Oi _ k1 a1 nm1 n1 s1 ls1 args1 arms1 A51 A61 A71 c51 c61 c71 k2 a2 nm2 n2 s2 ls2 args2 arms2 A52 A62 A72 c52 c62 c72 false w (fun b=>b<w.heap.size) (fun b=>b<w.heap.size) (Nat.lt_succ_self _) hla1 hla2 h1 h2)
     rw[hq] at cQ;clear hr' HR hq;obtain⟨⟨l0,l1,l2,l3,l4,l5,l6,l7⟩,_⟩:=Ac q1;obtain⟨⟨m0,m1,m2,m3,m4,m5,m6,m7⟩,_⟩:=Ac q2;go_wp2_with fail;refine(cQ _ HX.out HX2.out).out.mono ?_;rintro e w7 ⟨rfl,f7⟩;go_wp2_with fail;go_ret;exact⟨(by simp),F.trans f7⟩
    ·have hb:(g' != 0)=true:=bne_iff_ne.2 h1;clear h1 hr' HR;go_wp2_with fail;go_ret;exact⟨rfl,F⟩
   ·have hb:(g != 0)=true:=bne_iff_ne.2 h0;clear h0 hr' HR;go_wp2_with fail;go_ret;exact⟨rfl,F⟩
end
end Go.Proofs.YtabhpdhajajoiaaGreatDoor
