/- A part of the proof: Vh, Vi, Vha, Vj. -/
import Derived.Test.YtabhpdhajajoiaaGreatDoorEb8
import Derived.Test.YtabhpdhajajoiaaGreatDoorEb9
import Derived.Test.YtabhpdhajajoiaaGreatDoorEb10
import Derived.Test.YtabhpdhajajoiaaGreatDoorEb11
import Derived.Test.YtabhpdhajajoiaaGreatDoorEb12
namespace Go.Proofs.YtabhpdhajajoiaaGreatDoor
open Go.RowKit
open _root_.Go.Proofs.Tryz
set_option linter.all false
set_option maxHeartbeats 16000000
set_option maxRecDepth 100000
open List renaming length_cons→Lc',length_append→La',getElem?_eq_getElem→Lg',mem_cons_self→Lm',length_nil→Ln',append_assoc→Ls'
open Nat renaming le_refl→Nr'
section
attribute [local go_sem ↓] Go.wp_at_zero Go.wp_at_succ
theorem Sd.drop{w0:World}{P:Nat}{x:Nat×Obj}{rs:List (Nat×Obj)}{m:LB}{ok:Bool}{e:Ending}{w:World}(h:Sd w0 P (x::rs) m ok e w):Sd w0 P rs m ok e w:=by
 rcases h with⟨a,b,c⟩| h
 ·exact .inl ⟨a,b,c.drop⟩
 ·exact .inr h
theorem WB.row{w0:World}{ok:Nat→Prop}{P N:Nat}(hE:EC w0 ok P N){args:List Ab}{A6:Option Addr}{cc6:Nat}{cs:Nat→List Value}(h6:Dy w0 ok (.slice A6 args.length cc6) args.length 8 cs)(e6:∀ (i:Nat)(x:Ab),args[i]?=some x→Aj w0 ok x (cs i))(hN:B1 args<N)(hs:Im args)(hal:args.length≤1000){rs:List (Nat×Obj)}{l:LB}{wr:World}(h:WB w0 P rs l wr)(texts:List LB)(ct:Nat){M:LB}(hM:l++E2 texts (Az args)=M)(hlen:M.length≤70368744177664)(hta:args.length≤texts.length)(htl:texts.length≤1000):
  Calls prog 106 #[.pointer (some ⟨P,0,none⟩),.slice A6 args.length cc6,.slice (some ⟨wr.heap.size,0,none⟩) texts.length ct] (wr.alloc (Nu texts)) (Sd w0 P rs M (Au args)):=by
 subst hM;exact(row_any w0 ok P N hE args A6 cc6 cs h6 e6 hN hs hal texts wr.heap.size ct _ l _ (h.new (Nu texts)) (Lm' ..) (by rw[← La'];exact hlen) hta htl).mono fun _ _ h=>h.drop
theorem WB.add1q{w0 wr:World}{P:Nat}{rs:List (Nat×Obj)}{l:LB}{q:Nat}(hq:wr.heap.size=q)(h:WB w0 P rs l wr)(x:LB)(c:Nat)(hlen:l.length+x.length≤140737488355328):
  Calls prog 59 #[.pointer (some ⟨P,0,none⟩),.slice (some ⟨q,0,none⟩) 1 c] (wr.alloc (.cells #[vS x] 9)) fun e w'=>e = .returned (.tuple #[])∧WB w0 P rs (l++x) w':=by
 subst hq;exact h.add1 x c hlen
theorem J5{x:World}{B:Nat}{T:TypeId}{a0 a1 a2 a3 a4 a5 a6 a7 a8 a9 a10 a11 a12 a13 a14:Value}(h:x.heap[B]?=some (.cells #[a0,a1,a2,a3,a4,a5,a6,a7,a8,a9,a10,a11,a12,a13,a14] T (0,0))):x.cell? ⟨B,0,none⟩=some a0∧x.cell? ⟨B,1,none⟩=some a1∧x.cell? ⟨B,2,none⟩=some a2∧x.cell? ⟨B,3,none⟩=some a3∧x.cell? ⟨B,4,none⟩=some a4∧x.cell? ⟨B,5,none⟩=some a5∧x.cell? ⟨B,6,none⟩=some a6∧x.cell? ⟨B,7,none⟩=some a7∧x.cell? ⟨B,8,none⟩=some a8∧x.cell? ⟨B,9,none⟩=some a9∧x.cell? ⟨B,10,none⟩=some a10∧x.cell? ⟨B,11,none⟩=some a11∧x.cell? ⟨B,12,none⟩=some a12∧x.cell? ⟨B,13,none⟩=some a13∧x.cell? ⟨B,14,none⟩=some a14 :=
 ⟨Ae h 0,Ae h 1,Ae h 2,Ae h 3,Ae h 4,Ae h 5,Ae h 6,Ae h 7,Ae h 8,Ae h 9,Ae h 10,Ae h 11,Ae h 12,Ae h 13,Ae h 14⟩
theorem arm_told{w0 wr:World}{ok:Nat→Prop}{p:Ak}{x:Ab}{cp ce:List Value}(hp:Bd w0 ok p cp)(hx:Aj w0 ok x ce){g o:Nat}(hc:∀ (j:Nat)(v:Value),(cp++ce)[j]?=some v→wr.cell? ⟨g,o+j,none⟩=some v):
  ∃ k a nm n s ls args A5 c5 A6 c6 k2 a2 nm2 n2 s2 ls2 args2 arms2 A52 c52 A62 c62 A72 c72,p = .mk k a nm n s ls args∧x = .mk k2 a2 nm2 n2 s2 ls2 args2 arms2∧Bd w0 ok (.mk k a nm n s ls args) [vI k,vI a,vS nm,vI n,vS s,.slice A5 ls.length c5,.slice A6 args.length c6] ∧
   Aj w0 ok (.mk k2 a2 nm2 n2 s2 ls2 args2 arms2) [vI k2,vI a2,vS nm2,vI n2,vS s2,.slice A52 ls2.length c52,.slice A62 args2.length c62,.slice A72 arms2.length c72] ∧
   wr.cell? ⟨g,o,none⟩=some (vI k)∧wr.cell? ⟨g,o+1,none⟩=some (vI a)∧wr.cell? ⟨g,o+2,none⟩=some (vS nm)∧wr.cell? ⟨g,o+3,none⟩=some (vI n)∧wr.cell? ⟨g,o+4,none⟩=some (vS s)∧wr.cell? ⟨g,o+5,none⟩=some (.slice A5 ls.length c5)∧wr.cell? ⟨g,o+6,none⟩=some (.slice A6 args.length c6)∧
   wr.cell? ⟨g,o+7,none⟩=some (vI k2)∧wr.cell? ⟨g,o+8,none⟩=some (vI a2)∧wr.cell? ⟨g,o+9,none⟩=some (vS nm2)∧wr.cell? ⟨g,o+10,none⟩=some (vI n2)∧wr.cell? ⟨g,o+11,none⟩=some (vS s2)∧wr.cell? ⟨g,o+12,none⟩=some (.slice A52 ls2.length c52)∧wr.cell? ⟨g,o+13,none⟩=some (.slice A62 args2.length c62)∧wr.cell? ⟨g,o+14,none⟩=some (.slice A72 arms2.length c72):=by
 cases hp with
 | @mk k a nm n s ls args v5 v6 c5 c6 h5 e5 h6 e6 =>
 cases hx with
 | @mk k2 a2 nm2 n2 s2 ls2 args2 arms2 v52 v62 v72 d5 d6 dp de i5 f5 i6 f6 i7 f7 f8 =>
  obtain⟨A5,cc5,r5⟩:=h5.form;obtain⟨A6,cc6,r6⟩:=h6.form;obtain⟨A52,cc52,r52⟩:=i5.form;obtain⟨A62,cc62,r62⟩:=i6.form;obtain⟨A72,cc72,r72⟩:=i7.form;subst r5 r6 r52 r62 r72;exact⟨_,_,_,_,_,_,_,_,_,_,_,_,_,_,_,_,_,_,_,_,_,_,_,_,_,rfl,rfl,.mk c5 c6 h5 e5 h6 e6,.mk d5 d6 dp de i5 f5 i6 f6 i7 f7 f8,hc 0 _ rfl,hc 1 _ rfl,hc 2 _ rfl,hc 3 _ rfl,hc 4 _ rfl,hc 5 _ rfl,hc 6 _ rfl,hc 7 _ rfl,hc 8 _ rfl,hc 9 _ rfl,hc 10 _ rfl,hc 11 _ rfl,hc 12 _ rfl,hc 13 _ rfl,hc 14 _ rfl⟩
theorem op_one(w0:World)(ok:Nat→Prop)(P N:Nat)(hE:EC w0 ok P N)(n:Int)(hn:n=6∨n=9∨n=11)(args:List Ab)(A6:Option Addr)(cc6:Nat)(cs:Nat→List Value)(h6:Dy w0 ok (.slice A6 args.length cc6) args.length 8 cs)(e6:∀ (i:Nat)(x:Ab),args[i]?=some x→Aj w0 ok x (cs i))(hN:B1 args<N)(hs:Im args)(hna:args.length=Dc n)(rs:List (Nat×Obj))(l:LB)(wr:World)(hb:WB w0 P rs l wr)(hl:l.length+(opT n (Az args)).length≤70368744177664):
  Calls prog 108 #[.pointer (some ⟨P,0,none⟩),vI n,.slice A6 args.length cc6] wr (Sd w0 P rs (l++opT n (Az args)) (Au args)):=by
 have cS:=fun w=>Hz (Lq n (by omega) (by omega) w)
 obtain⟨x,rfl⟩:∃ x,args=[x]:=Id (by rw[hna];rcases hn with rfl|rfl|rfl <;> rfl)
 have HW:Hid (l++E2 [(Bx n)++[32]] (Az [x])=l++opT n (Az [x])):=Hz (by rcases hn with rfl|rfl|rfl <;> simp[opT,E2,Az]);rw[← La'] at hl
 generalize l++opT n (Az [x])=M at *
 have HL:=Hz hl;have cR:=fun w hb=>Hz (WB.row (wr:=w) (rs:=rs) hE h6 e6 hN hs (by simp) hb [(Bx n)++[32]] 1 HW.out HL.out (by simp) (by simp))
 clear hE h6 e6 hN hs hl;have hs5:=Qh n
 generalize hsg:Bx n=sg at *
 have hs6:(⟨sg.toArray⟩:ByteArray).size≤5:=by simpa [ByteArray.size] using hs5
 have hcat:=I4 sg [32];clear hsg hna;rcases hn with rfl|rfl|rfl
 all_goals
  go_enter func108,ntmps108;go_wp2_with fail;refine(cS _).out.mono ?_;rintro e w1 ⟨rfl,rfl⟩;go_wp2_with fail;refine(cR _ hb).out.mono ?_;rintro e w2 (⟨hok,rfl,hb⟩| ⟨hok,rfl,hf⟩)
  ·go_wp2_with fail
   go_end0
   exact Sd.done (by simp[hok]) rfl hb
  ·go_wp2_with fail;exact⟨rfl,Sd.gave (by simp[hok]) hf⟩
theorem op_two(w0:World)(ok:Nat→Prop)(P N:Nat)(hE:EC w0 ok P N)(n:Int)(hn:n=1∨n=2∨n=3∨n=4∨n=5∨n=7∨n=8∨n=12)(args:List Ab)(A6:Option Addr)(cc6:Nat)(cs:Nat→List Value)(h6:Dy w0 ok (.slice A6 args.length cc6) args.length 8 cs)(e6:∀ (i:Nat)(x:Ab),args[i]?=some x→Aj w0 ok x (cs i))(hN:B1 args<N)(hs:Im args)(hna:args.length=Dc n)(rs:List (Nat×Obj))(l:LB)(wr:World)(hb:WB w0 P rs l wr)(hl:l.length+(opT n (Az args)).length≤70368744177664):
  Calls prog 108 #[.pointer (some ⟨P,0,none⟩),vI n,.slice A6 args.length cc6] wr (Sd w0 P rs (l++opT n (Az args)) (Au args)):=by
 have cS:=fun w=>Hz (Lq n (by omega) (by omega) w)
 obtain⟨x,y,rfl⟩:∃ x y,args=[x,y]:=Ib (by rw[hna];rcases hn with rfl|rfl|rfl|rfl|rfl|rfl|rfl|rfl <;> rfl)
 have HW:Hid (l++E2 [[],([32]++(Bx n))++[32]] (Az [x,y])=l++opT n (Az [x,y])):=Hz (by rcases hn with rfl|rfl|rfl|rfl|rfl|rfl|rfl|rfl <;> simp[opT,E2,Az]);rw[← La'] at hl
 generalize l++opT n (Az [x,y])=M at *
 have HL:=Hz hl;have cR:=fun w hb=>Hz (WB.row (wr:=w) (rs:=rs) hE h6 e6 hN hs (by simp) hb [[],([32]++(Bx n))++[32]] 2 HW.out HL.out (by simp) (by simp))
 clear hE h6 e6 hN hs hl;have hs5:=Qh n
 generalize hsg:Bx n=sg at *
 have hs6:(⟨sg.toArray⟩:ByteArray).size≤5:=by simpa [ByteArray.size] using hs5
 have hcat:=(show(⟨#[32]⟩++⟨sg.toArray⟩++⟨#[32]⟩:ByteArray)=⟨(([32]++sg)++[32]).toArray⟩ by rw[I4 [32] sg,I4])
 clear hsg hna;rcases hn with rfl|rfl|rfl|rfl|rfl|rfl|rfl|rfl
 all_goals
  go_enter func108,ntmps108;go_wp2_with fail;refine(cS _).out.mono ?_;rintro e w1 ⟨rfl,rfl⟩;go_wp2_with fail;refine(cR _ hb).out.mono ?_;rintro e w2 (⟨hok,rfl,hb⟩| ⟨hok,rfl,hf⟩)
  ·go_wp2_with fail
   go_end0
   exact Sd.done (by simp[hok]) rfl hb
  ·go_wp2_with fail;exact⟨rfl,Sd.gave (by simp[hok]) hf⟩
theorem op_call(w0:World)(ok:Nat→Prop)(P N:Nat)(hE:EC w0 ok P N)(n:Int)(h1:1≤n)(h2:n≤21)(hn:¬ (n=6∨n=9∨n=11)∧¬ (n≤8∨n=12))(args:List Ab)(A6:Option Addr)(cc6:Nat)(cs:Nat→List Value)(h6:Dy w0 ok (.slice A6 args.length cc6) args.length 8 cs)(e6:∀ (i:Nat)(x:Ab),args[i]?=some x→Aj w0 ok x (cs i))(hN:B1 args<N)(hs:Im args)(hna:args.length=Dc n)(rs:List (Nat×Obj))(l:LB)(wr:World)(hb:WB w0 P rs l wr)(hl:l.length+(opT n (Az args)).length≤70368744177664):
  Calls prog 108 #[.pointer (some ⟨P,0,none⟩),vI n,.slice A6 args.length cc6] wr (Sd w0 P rs (l++opT n (Az args)) (Au args)):=by
 have cS:=fun w=>Hz (Lq n h1 h2 w)
 have HW:Hid (l++(Bx n++Gh (Az args))=l++opT n (Az args)):=Hz (by rw[opT,if_neg hn.1,if_neg hn.2]);rw[← La'] at hl;have hal:args.length≤3:=by rw[hna];unfold Dc;split <;>(try split)<;> omega
 have hal2:(args.length:Int)≤3:=by omega
 generalize l++opT n (Az args)=M at *
 have HL:=Hz hl;have HO:Hid (Au (args.drop 0)=Au args):=Hz rfl
 generalize Au args=O at *
 generalize Bx n=sg at *
 have IH:=Hz hE;have H6:=Hz h6;have E6:Hid (∀ (i:Nat) (x:Ab),args[i]?=some x→Aj w0 ok x (cs i)):=Hz e6;have HN:=Hz hN;have HS:=Hz hs;have z6:(n==6)=false:=by rw[bN];omega
 have z9:(n==9)=false:=by rw[bN];omega
 have z11:(n==11)=false:=by rw[bN];omega
 have z8:decide (n≤8)=false:=by simp;omega
 have z12:(n==12)=false:=by rw[bN];omega
 clear hE h6 e6 hN hs hl hn hna h1 h2;go_enter func108,ntmps108;go_wp2_with fail;refine(cS _).out.mono ?_;rintro e w1 ⟨rfl,rfl⟩;go_wp2_with fail;refine(hb.add1 sg _ (by have:=Ax HW.out HL.out;omega)).mono ?_;rintro e w2 ⟨rfl,hb⟩;have HW0:Hid ((l++sg)++Gh (Az (args.drop 0))=M):=Hz (Aw HW.out);clear HW cS;go_wp2_with fail
 go_loopw [15] (fun iv wx=>∃ (i:Nat) (m:LB),iv=vI i∧i≤args.length∧WB w0 P rs m wx∧Hid (m++Gh (Az (args.drop i))=M)∧Hid (Au (args.drop i)=O)) (fun iv wx=>args.length-(intOf iv).toNat)
 case atStart=>exact⟨0,_,rfl,by omega,hb,HW0,HO⟩
 case round =>
  obtain⟨i,m,rfl,hi,hb,HW,HO⟩:=hrel;clear HW0;by_cases hlt:i<args.length
  ·obtain⟨x,hx⟩:∃ x,args[i]?=some x:=⟨args[i],Lg' hlt⟩
   have hw:m++([32]++(txE x++Gh (Az (args.drop (i+1)))))=M:=by rw[← HW.out,call_at hx];rfl
   have ho:(Be x&&Au (args.drop (i+1)))=O:=by rw[← HO.out,Lj hx]
   have HX:=Hz hx;have HW1:=Hz (Aw hw);have HO1:=Hz ho;obtain⟨g,o,hA,hg,hc⟩:=H6.out.elem hb.frame hlt;subst hA;obtain⟨k2,a2,nm2,n2,s2,ls2,args2,arms2,A52,c52,A62,c62,A72,c72,rfl,hx2,x0,x1,x2,x3,x4,x5,x6,x7⟩:=(E6.out i _ hx).told hc;have q1:(0:Int)≤(i:Int):=by omega
   have q2:(i:Int)<(args.length:Int):=by omega
   have hml:=Hz (Ax hw HL.out);have hq:(wr.alloc (.cells #[vI k2,vI a2,vS nm2,vI n2,vS s2,.slice A52 ls2.length c52,.slice A62 args2.length c62,.slice A72 arms2.length c72] 35)).heap.size=wr.heap.size+1:=by simp
   replace hb:=hb.new (.cells #[vI k2,vI a2,vS nm2,vI n2,vS s2,.slice A52 ls2.length c52,.slice A62 args2.length c62,.slice A72 arms2.length c72] 35);clear hx hw ho hc;go_wp2_with fail
   generalize wr.heap.size=Tx at *
   refine(WB.add1q hq hb [32] _ (by have:=hml.out;omega)).mono ?_;rintro e w3 ⟨rfl,hb⟩;clear x0 x1 x2 x3 x4 x5 x6 x7;obtain⟨⟨l0,l1,l2,l3,l4,l5,l6,l7⟩,_⟩:=Ac (hb.at (Lm' ..));have C2:=Hz (IH.out k2 a2 nm2 n2 s2 ls2 args2 arms2 A52 A62 A72 c52 c62 c72 _ _ _ (by have:=Et HX.out;have:=HN.out;omega) (HS.out.get HX.out) hx2 hb (by have:=Ax HW1.out HL.out;omega));clear hx2;go_wp2_with fail;refine C2.out.mono ?_;rintro e w4 (⟨hok2,rfl,hb⟩| ⟨hok2,rfl,hf⟩)
   ·have HW2:=Hz (Aw HW1.out);have HO2:=Hz HO1.out;rw[hok2,Bool.true_and] at HO2;clear hok2 C2 HW1 HO1 HW HO l0 l1 l2 l3 l4 l5 l6 l7;go_wp2_with fail
    go_roundw
    case rel=>exact⟨i+1,_,by simp,by omega,hb.drop,HW2,HO2⟩
    case measure=>simp[intOf];omega
   ·go_wp2_with fail;exact⟨rfl,Sd.gave (by rw[← HO1.out,hok2];rfl) hf⟩
  ·have ei:i=args.length:=by omega
   subst ei;have hw:=HW.out;rw[call_end (Nr' _)] at hw;have ho:=HO.out;rw[Iu (Nr' _)] at ho;go_wp2_with fail
   go_end0
   exact Sd.done ho.symm (Cm hw) hb
theorem wop_any(w0:World)(ok:Nat→Prop)(P N:Nat)(hE:EC w0 ok P N)(n:Int)(h1:1≤n)(h2:n≤21)(args:List Ab)(A6:Option Addr)(cc6:Nat)(cs:Nat→List Value)(h6:Dy w0 ok (.slice A6 args.length cc6) args.length 8 cs)(e6:∀ (i:Nat)(x:Ab),args[i]?=some x→Aj w0 ok x (cs i))(hN:B1 args<N)(hs:Im args)(hna:args.length=Dc n)(rs:List (Nat×Obj))(l:LB)(wr:World)(hb:WB w0 P rs l wr)(hl:l.length+(opT n (Az args)).length≤70368744177664):
  Calls prog 108 #[.pointer (some ⟨P,0,none⟩),vI n,.slice A6 args.length cc6] wr (Sd w0 P rs (l++opT n (Az args)) (Au args)):=by
 by_cases ha:n=6∨n=9∨n=11
 ·exact op_one w0 ok P N hE n ha args A6 cc6 cs h6 e6 hN hs hna rs l wr hb hl
 ·by_cases hc:n≤8∨n=12
  ·exact op_two w0 ok P N hE n (by omega) args A6 cc6 cs h6 e6 hN hs hna rs l wr hb hl
  ·exact op_call w0 ok P N hE n h1 h2 ⟨ha,hc⟩ args A6 cc6 cs h6 e6 hN hs hna rs l wr hb hl
def IC1(w0:World)(ok:Nat→Prop)(P N:Nat)(k:Int):Prop:=∀ (a:Int)(nm:LB)(n:Int)(s:LB)(ls:List LB)(args:List Ab)(arms:List (Ak×Ab))(A5 A6 A7:Option Addr)(c5 c6 c7:Nat)(rs:List (Nat×Obj))(l:LB)(wr:World),szE (.mk k a nm n s ls args arms)<N→SwE (.mk k a nm n s ls args arms)→
  Aj w0 ok (.mk k a nm n s ls args arms) [vI k,vI a,vS nm,vI n,vS s,.slice A5 ls.length c5,.slice A6 args.length c6,.slice A7 arms.length c7]→(∃ h,Bt k n ls.length=some h∧Ah h nm n s ls.length args.length arms.length=true)→WB w0 P rs l wr→l.length+(Bc k nm n (Az args) (Cr arms)).length≤70368744177664 →
  Calls prog 72 #[.pointer (some ⟨P,0,none⟩),.agg #[vI k,vI a,vS nm,vI n,vS s,.slice A5 ls.length c5,.slice A6 args.length c6,.slice A7 arms.length c7]] wr (Sd w0 P rs (l++Bc k nm n (Az args) (Cr arms)) (A9 k nm n ls (Dp args)&&Au args&&A0 arms))
theorem Yk(w0:World)(ok:Nat→Prop)(P N:Nat)(hV:Dx w0)(ih:EC w0 ok P N):IC1 w0 ok P (N+1) 7:=by
 intro a nm n s ls args arms A5 A6 A7 c5 c6 c7 rs l wr hN hs hx hR hb hl;obtain⟨⟨hs1,hs2,hs3,hs4⟩,hs5,hs6⟩:=hs;obtain⟨h,hh,hr⟩:=hR;simp[Bt] at hh;subst hh;have hfa:n=0∧s=[]∧ls=[]∧args.length=1∧arms=[]:=by simpa [Ah,and_assoc] using hr
 obtain⟨rfl,rfl,rfl,t,rfl⟩:=hfa;clear hr;obtain⟨x,rfl⟩:=Id t;clear t;have HV:=Hz hV;have hsz:szE (.mk 7 a nm 0 [] [] [x] [])=1+B1 [x]:=by simp[szE,Cd]
 rw[hsz] at hN
 cases hx with
 | mk d5 d6 dp de h5 e5 h6 e6 h7 e7 e8 =>
 have HW:Hid (l++E2 [([102,117,110,32]++nm)++[32,45,62,32],[]] (Az [x])=l++Bc 7 nm 0 (Az [x]) (Cr [])):=Hz (by simp[Bc,E2,Az,opT]);rw[← La'] at hl;have HO:Hid ((As nm&&Au [x])=(A9 7 nm 0 [] (Dp [x])&&Au [x]&&A0 [])):=Hz (by simp[A9,A0])
 generalize l++Bc 7 nm 0 (Az [x]) (Cr [])=M at *
 generalize (A9 7 nm 0 [] (Dp [x])&&Au [x]&&A0 [])=O at *
 have cR:=fun w rz hb=>Hz (WB.row (wr:=w) (rs:=rz) ih h6 e6 (by omega) hs5 (by simp) hb [([102,117,110,32]++nm)++[32,45,62,32],[]] 2 HW.out hl (by simp) (by simp))
 clear h5 e5 h6 e6 h7 e7 e8 hN hs5 hl hsz ih;have hnz:(⟨nm.toArray⟩:ByteArray).size≤65536:=by simpa [ByteArray.size] using hs1
 have cN:=fun w hE=>Hz (Ew ⟨nm.toArray⟩ (by omega) w hE)
 rw[(show(⟨nm.toArray⟩:ByteArray).data.toList=nm from rfl)] at cN
 have hcat:=(show(⟨#[102,117,110,32]⟩++⟨nm.toArray⟩++⟨#[32,45,62,32]⟩:ByteArray)=⟨(([102,117,110,32]++nm)++[32,45,62,32]).toArray⟩ by rw[I4 [102,117,110,32] nm,I4])
 cases hn:As nm with
 | false =>
  rw[hn] at cN HO;have hb0:=hb.new (.cells #[vI 7,vI a,vS nm,vI 0,vE,.slice A5 0 c5,.slice A6 1 c6,.slice A7 0 c7] 35);go_enter func72,ntmps72;go_wp2_with fail;refine(cN _ (HV.out.fr hb0.frame)).out.mono ?_;rintro e w5 ⟨rfl,hf⟩;replace hb:=hb0.fr hf;clear hf hb0
  generalize wr.heap.size=T at *
  obtain⟨⟨l0,l1,l2,l3,l4,l5,l6,l7⟩,_⟩:=Ac (hb.at (Lm' ..));go_wp2_with fail;refine(must_no _).mono ?_;rintro e w6 ⟨rfl,hf⟩;go_wp2_with fail
  exact⟨rfl,Sd.gave (by rw[← HO.out];rfl) (hb.frame.trans hf)⟩
 | true =>
  rw[hn] at cN HO;have hb0:=hb.new (.cells #[vI 7,vI a,vS nm,vI 0,vE,.slice A5 0 c5,.slice A6 1 c6,.slice A7 0 c7] 35);go_enter func72,ntmps72;go_wp2_with fail;refine(cN _ (HV.out.fr hb0.frame)).out.mono ?_;rintro e w5 ⟨rfl,hf⟩;replace hb:=hb0.fr hf;clear hf hb0
  generalize wr.heap.size=T at *
  obtain⟨⟨l0,l1,l2,l3,l4,l5,l6,l7⟩,_⟩:=Ac (hb.at (Lm' ..));go_wp2_with fail;refine(must_yes _).mono ?_;rintro e w6 ⟨rfl,rfl⟩;go_wp2_with fail;refine(cR _ _ hb).out.mono ?_;rintro e w7 (⟨hok,rfl,hb⟩| ⟨hok,rfl,hf⟩)
  ·go_wp2_with fail
   go_end0
   exact Sd.done (by rw[← HO.out,hok];rfl) rfl hb.drop
  ·go_wp2_with fail;exact⟨rfl,Sd.gave (by rw[← HO.out,hok];rfl) hf⟩
theorem inner_8(w0:World)(ok:Nat→Prop)(P N:Nat)(hV:Dx w0)(ih:EC w0 ok P N):IC1 w0 ok P (N+1) 8:=by
 intro a nm n s ls args arms A5 A6 A7 c5 c6 c7 rs l wr hN hs hx hR hb hl;obtain⟨⟨hs1,hs2,hs3,hs4⟩,hs5,hs6⟩:=hs;obtain⟨h,hh,hr⟩:=hR;simp[Bt] at hh;subst hh;have hfa:nm=[]∧n=0∧s=[]∧ls=[]∧args.length=2∧arms=[]:=by simpa [Ah,and_assoc] using hr
 obtain⟨rfl,rfl,rfl,rfl,t,rfl⟩:=hfa;clear hr;obtain⟨x,y,rfl⟩:=Ib t;clear t;have HV:=Hz hV;have hsz:szE (.mk 8 a [] 0 [] [] [x,y] [])=1+B1 [x,y]:=by simp[szE,Cd]
 rw[hsz] at hN
 cases hx with
 | mk d5 d6 dp de h5 e5 h6 e6 h7 e7 e8 =>
 have HW:Hid (l++E2 [[],[32]] (Az [x,y])=l++Bc 8 [] 0 (Az [x,y]) (Cr [])):=Hz (by simp[Bc,E2,Az,opT]);rw[← La'] at hl;have HO:Hid (Au [x,y]=(A9 8 [] 0 [] (Dp [x,y])&&Au [x,y]&&A0 [])):=Hz (by simp[A9,A0])
 generalize l++Bc 8 [] 0 (Az [x,y]) (Cr [])=M at *
 generalize (A9 8 [] 0 [] (Dp [x,y])&&Au [x,y]&&A0 [])=O at *
 have cR:=fun w rz hb=>Hz (WB.row (wr:=w) (rs:=rz) ih h6 e6 (by omega) hs5 (by simp) hb [[],[32]] 2 HW.out hl (by simp) (by simp))
 clear h5 e5 h6 e6 h7 e7 e8 hN hs5 hl hsz ih;have hb0:=hb.new (.cells #[vI 8,vI a,vE,vI 0,vE,.slice A5 0 c5,.slice A6 2 c6,.slice A7 0 c7] 35);have hq:(wr.alloc (.cells #[vI 8,vI a,vE,vI 0,vE,.slice A5 0 c5,.slice A6 2 c6,.slice A7 0 c7] 35)).heap.size=wr.heap.size+1:=by simp
 have cR2:=cR _ _ hb0;rw[hq] at cR2;go_enter func72,ntmps72;go_wp2_with fail;refine cR2.out.mono ?_;rintro e w7 (⟨hok,rfl,hb⟩| ⟨hok,rfl,hf⟩)
 ·go_wp2_with fail
  go_end0
  exact Sd.done (by rw[← HO.out,hok]) rfl hb.drop
 ·go_wp2_with fail;exact⟨rfl,Sd.gave (by rw[← HO.out,hok]) hf⟩
theorem inner_9(w0:World)(ok:Nat→Prop)(P N:Nat)(hV:Dx w0)(ih:EC w0 ok P N):IC1 w0 ok P (N+1) 9:=by
 intro a nm n s ls args arms A5 A6 A7 c5 c6 c7 rs l wr hN hs hx hR hb hl;obtain⟨⟨hs1,hs2,hs3,hs4⟩,hs5,hs6⟩:=hs;obtain⟨h,hh,hr⟩:=hR;simp[Bt] at hh;subst hh;have hfa:n=0∧s=[]∧ls=[]∧args.length=2∧arms=[]:=by simpa [Ah,and_assoc] using hr
 obtain⟨rfl,rfl,rfl,t,rfl⟩:=hfa;clear hr;obtain⟨x,y,rfl⟩:=Ib t;clear t;have HV:=Hz hV;have hsz:szE (.mk 9 a nm 0 [] [] [x,y] [])=1+B1 [x,y]:=by simp[szE,Cd]
 rw[hsz] at hN
 cases hx with
 | mk d5 d6 dp de h5 e5 h6 e6 h7 e7 e8 =>
 have HW:Hid (l++E2 [([108,101,116,32]++nm)++[32,61,32],[32,105,110,32]] (Az [x,y])=l++Bc 9 nm 0 (Az [x,y]) (Cr [])):=Hz (by simp[Bc,E2,Az,opT]);rw[← La'] at hl;have HO:Hid ((As nm&&Au [x,y])=(A9 9 nm 0 [] (Dp [x,y])&&Au [x,y]&&A0 [])):=Hz (by simp[A9,A0])
 generalize l++Bc 9 nm 0 (Az [x,y]) (Cr [])=M at *
 generalize (A9 9 nm 0 [] (Dp [x,y])&&Au [x,y]&&A0 [])=O at *
 have cR:=fun w rz hb=>Hz (WB.row (wr:=w) (rs:=rz) ih h6 e6 (by omega) hs5 (by simp) hb [([108,101,116,32]++nm)++[32,61,32],[32,105,110,32]] 2 HW.out hl (by simp) (by simp))
 clear h5 e5 h6 e6 h7 e7 e8 hN hs5 hl hsz ih;have hnz:(⟨nm.toArray⟩:ByteArray).size≤65536:=by simpa [ByteArray.size] using hs1
 have cN:=fun w hE=>Hz (Ew ⟨nm.toArray⟩ (by omega) w hE)
 rw[(show(⟨nm.toArray⟩:ByteArray).data.toList=nm from rfl)] at cN
 have hcat:=(show(⟨#[108,101,116,32]⟩++⟨nm.toArray⟩++⟨#[32,61,32]⟩:ByteArray)=⟨(([108,101,116,32]++nm)++[32,61,32]).toArray⟩ by rw[I4 [108,101,116,32] nm,I4])
 cases hn:As nm with
 | false =>
  rw[hn] at cN HO;have hb0:=hb.new (.cells #[vI 9,vI a,vS nm,vI 0,vE,.slice A5 0 c5,.slice A6 2 c6,.slice A7 0 c7] 35);go_enter func72,ntmps72;go_wp2_with fail;refine(cN _ (HV.out.fr hb0.frame)).out.mono ?_;rintro e w5 ⟨rfl,hf⟩;replace hb:=hb0.fr hf;clear hf hb0
  generalize wr.heap.size=T at *
  obtain⟨⟨l0,l1,l2,l3,l4,l5,l6,l7⟩,_⟩:=Ac (hb.at (Lm' ..));go_wp2_with fail;refine(must_no _).mono ?_;rintro e w6 ⟨rfl,hf⟩;go_wp2_with fail
  exact⟨rfl,Sd.gave (by rw[← HO.out];rfl) (hb.frame.trans hf)⟩
 | true =>
  rw[hn] at cN HO;have hb0:=hb.new (.cells #[vI 9,vI a,vS nm,vI 0,vE,.slice A5 0 c5,.slice A6 2 c6,.slice A7 0 c7] 35);go_enter func72,ntmps72;go_wp2_with fail;refine(cN _ (HV.out.fr hb0.frame)).out.mono ?_;rintro e w5 ⟨rfl,hf⟩;replace hb:=hb0.fr hf;clear hf hb0
  generalize wr.heap.size=T at *
  obtain⟨⟨l0,l1,l2,l3,l4,l5,l6,l7⟩,_⟩:=Ac (hb.at (Lm' ..));go_wp2_with fail;refine(must_yes _).mono ?_;rintro e w6 ⟨rfl,rfl⟩;go_wp2_with fail;refine(cR _ _ hb).out.mono ?_;rintro e w7 (⟨hok,rfl,hb⟩| ⟨hok,rfl,hf⟩)
  ·go_wp2_with fail
   go_end0
   exact Sd.done (by rw[← HO.out,hok];rfl) rfl hb.drop
  ·go_wp2_with fail;exact⟨rfl,Sd.gave (by rw[← HO.out,hok];rfl) hf⟩
theorem inner_11(w0:World)(ok:Nat→Prop)(P N:Nat)(hV:Dx w0)(ih:EC w0 ok P N):IC1 w0 ok P (N+1) 11:=by
 intro a nm n s ls args arms A5 A6 A7 c5 c6 c7 rs l wr hN hs hx hR hb hl;obtain⟨⟨hs1,hs2,hs3,hs4⟩,hs5,hs6⟩:=hs;obtain⟨h,hh,hr⟩:=hR;simp[Bt] at hh;subst hh;have hfa:nm=[]∧n=0∧s=[]∧ls=[]∧args.length=3∧arms=[]:=by simpa [Ah,and_assoc] using hr
 obtain⟨rfl,rfl,rfl,rfl,t,rfl⟩:=hfa;clear hr;obtain⟨x,y,z,rfl⟩:=trio_of t;clear t;have HV:=Hz hV;have hsz:szE (.mk 11 a [] 0 [] [] [x,y,z] [])=1+B1 [x,y,z]:=by simp[szE,Cd]
 rw[hsz] at hN
 cases hx with
 | mk d5 d6 dp de h5 e5 h6 e6 h7 e7 e8 =>
 have HW:Hid (l++E2 [[105,102,32],[32,116,104,101,110,32],[32,101,108,115,101,32]] (Az [x,y,z])=l++Bc 11 [] 0 (Az [x,y,z]) (Cr [])):=Hz (by simp[Bc,E2,Az,opT]);rw[← La'] at hl;have HO:Hid (Au [x,y,z]=(A9 11 [] 0 [] (Dp [x,y,z])&&Au [x,y,z]&&A0 [])):=Hz (by simp[A9,A0])
 generalize l++Bc 11 [] 0 (Az [x,y,z]) (Cr [])=M at *
 generalize (A9 11 [] 0 [] (Dp [x,y,z])&&Au [x,y,z]&&A0 [])=O at *
 have cR:=fun w rz hb=>Hz (WB.row (wr:=w) (rs:=rz) ih h6 e6 (by omega) hs5 (by simp) hb [[105,102,32],[32,116,104,101,110,32],[32,101,108,115,101,32]] 3 HW.out hl (by simp) (by simp))
 clear h5 e5 h6 e6 h7 e7 e8 hN hs5 hl hsz ih;have hb0:=hb.new (.cells #[vI 11,vI a,vE,vI 0,vE,.slice A5 0 c5,.slice A6 3 c6,.slice A7 0 c7] 35);have hq:(wr.alloc (.cells #[vI 11,vI a,vE,vI 0,vE,.slice A5 0 c5,.slice A6 3 c6,.slice A7 0 c7] 35)).heap.size=wr.heap.size+1:=by simp
 have cR2:=cR _ _ hb0;rw[hq] at cR2;go_enter func72,ntmps72;go_wp2_with fail;refine cR2.out.mono ?_;rintro e w7 (⟨hok,rfl,hb⟩| ⟨hok,rfl,hf⟩)
 ·go_wp2_with fail
  go_end0
  exact Sd.done (by rw[← HO.out,hok]) rfl hb.drop
 ·go_wp2_with fail;exact⟨rfl,Sd.gave (by rw[← HO.out,hok]) hf⟩
theorem inner_15(w0:World)(ok:Nat→Prop)(P N:Nat)(hV:Dx w0)(ih:EC w0 ok P N):IC1 w0 ok P (N+1) 15:=by
 intro a nm n s ls args arms A5 A6 A7 c5 c6 c7 rs l wr hN hs hx hR hb hl;obtain⟨⟨hs1,hs2,hs3,hs4⟩,hs5,hs6⟩:=hs;obtain⟨h,hh,hr⟩:=hR;simp[Bt] at hh;subst hh;have hfa:n=0∧s=[]∧ls=[]∧args.length=1∧arms=[]:=by simpa [Ah,and_assoc] using hr
 obtain⟨rfl,rfl,rfl,t,rfl⟩:=hfa;clear hr;obtain⟨x,rfl⟩:=Id t;clear t;have HV:=Hz hV;have hsz:szE (.mk 15 a nm 0 [] [] [x] [])=1+B1 [x]:=by simp[szE,Cd]
 rw[hsz] at hN
 cases hx with
 | mk d5 d6 dp de h5 e5 h6 e6 h7 e7 e8 =>
 have HW:Hid (l++E2 [([35]++nm)++[32]] (Az [x])=l++Bc 15 nm 0 (Az [x]) (Cr [])):=Hz (by simp[Bc,E2,Az,opT]);rw[← La'] at hl;have HO:Hid ((Dm nm&&Au [x])=(A9 15 nm 0 [] (Dp [x])&&Au [x]&&A0 [])):=Hz (by simp[A9,A0])
 generalize l++Bc 15 nm 0 (Az [x]) (Cr [])=M at *
 generalize (A9 15 nm 0 [] (Dp [x])&&Au [x]&&A0 [])=O at *
 have cR:=fun w rz hb=>Hz (WB.row (wr:=w) (rs:=rz) ih h6 e6 (by omega) hs5 (by simp) hb [([35]++nm)++[32]] 1 HW.out hl (by simp) (by simp))
 clear h5 e5 h6 e6 h7 e7 e8 hN hs5 hl hsz ih;have hnz:(⟨nm.toArray⟩:ByteArray).size≤65536:=by simpa [ByteArray.size] using hs1
 have cN:=fun w hE=>Hz (Kl ⟨nm.toArray⟩ (by omega) w hE)
 rw[(show(⟨nm.toArray⟩:ByteArray).data.toList=nm from rfl)] at cN
 have hcat:=(show(⟨#[35]⟩++⟨nm.toArray⟩++⟨#[32]⟩:ByteArray)=⟨(([35]++nm)++[32]).toArray⟩ by rw[I4 [35] nm,I4])
 cases hn:Dm nm with
 | false =>
  rw[hn] at cN HO;have hb0:=hb.new (.cells #[vI 15,vI a,vS nm,vI 0,vE,.slice A5 0 c5,.slice A6 1 c6,.slice A7 0 c7] 35);go_enter func72,ntmps72;go_wp2_with fail;refine(cN _ (HV.out.fr hb0.frame)).out.mono ?_;rintro e w5 ⟨rfl,hf⟩;replace hb:=hb0.fr hf;clear hf hb0
  generalize wr.heap.size=T at *
  obtain⟨⟨l0,l1,l2,l3,l4,l5,l6,l7⟩,_⟩:=Ac (hb.at (Lm' ..));go_wp2_with fail;refine(must_no _).mono ?_;rintro e w6 ⟨rfl,hf⟩;go_wp2_with fail
  exact⟨rfl,Sd.gave (by rw[← HO.out];rfl) (hb.frame.trans hf)⟩
 | true =>
  rw[hn] at cN HO;have hb0:=hb.new (.cells #[vI 15,vI a,vS nm,vI 0,vE,.slice A5 0 c5,.slice A6 1 c6,.slice A7 0 c7] 35);go_enter func72,ntmps72;go_wp2_with fail;refine(cN _ (HV.out.fr hb0.frame)).out.mono ?_;rintro e w5 ⟨rfl,hf⟩;replace hb:=hb0.fr hf;clear hf hb0
  generalize wr.heap.size=T at *
  obtain⟨⟨l0,l1,l2,l3,l4,l5,l6,l7⟩,_⟩:=Ac (hb.at (Lm' ..));go_wp2_with fail;refine(must_yes _).mono ?_;rintro e w6 ⟨rfl,rfl⟩;go_wp2_with fail;refine(cR _ _ hb).out.mono ?_;rintro e w7 (⟨hok,rfl,hb⟩| ⟨hok,rfl,hf⟩)
  ·go_wp2_with fail
   go_end0
   exact Sd.done (by rw[← HO.out,hok];rfl) rfl hb.drop
  ·go_wp2_with fail;exact⟨rfl,Sd.gave (by rw[← HO.out,hok];rfl) hf⟩
theorem inner_18(w0:World)(ok:Nat→Prop)(P N:Nat)(hV:Dx w0)(ih:EC w0 ok P N):IC1 w0 ok P (N+1) 18:=by
 intro a nm n s ls args arms A5 A6 A7 c5 c6 c7 rs l wr hN hs hx hR hb hl;obtain⟨⟨hs1,hs2,hs3,hs4⟩,hs5,hs6⟩:=hs;obtain⟨h,hh,hr⟩:=hR;simp[Bt] at hh;subst hh;have hfa:nm=[]∧n=0∧s=[]∧ls=[]∧args.length=1∧arms=[]:=by simpa [Ah,and_assoc] using hr
 obtain⟨rfl,rfl,rfl,rfl,t,rfl⟩:=hfa;clear hr;obtain⟨x,rfl⟩:=Id t;clear t;have HV:=Hz hV;have hsz:szE (.mk 18 a [] 0 [] [] [x] [])=1+B1 [x]:=by simp[szE,Cd]
 rw[hsz] at hN
 cases hx with
 | mk d5 d6 dp de h5 e5 h6 e6 h7 e7 e8 =>
 have HW:Hid (l++E2 [[114,97,105,115,101,32]] (Az [x])=l++Bc 18 [] 0 (Az [x]) (Cr [])):=Hz (by simp[Bc,E2,Az,opT]);rw[← La'] at hl;have HO:Hid (Au [x]=(A9 18 [] 0 [] (Dp [x])&&Au [x]&&A0 [])):=Hz (by simp[A9,A0])
 generalize l++Bc 18 [] 0 (Az [x]) (Cr [])=M at *
 generalize (A9 18 [] 0 [] (Dp [x])&&Au [x]&&A0 [])=O at *
 have cR:=fun w rz hb=>Hz (WB.row (wr:=w) (rs:=rz) ih h6 e6 (by omega) hs5 (by simp) hb [[114,97,105,115,101,32]] 1 HW.out hl (by simp) (by simp))
 clear h5 e5 h6 e6 h7 e7 e8 hN hs5 hl hsz ih;have hb0:=hb.new (.cells #[vI 18,vI a,vE,vI 0,vE,.slice A5 0 c5,.slice A6 1 c6,.slice A7 0 c7] 35);have hq:(wr.alloc (.cells #[vI 18,vI a,vE,vI 0,vE,.slice A5 0 c5,.slice A6 1 c6,.slice A7 0 c7] 35)).heap.size=wr.heap.size+1:=by simp
 have cR2:=cR _ _ hb0;rw[hq] at cR2;go_enter func72,ntmps72;go_wp2_with fail;refine cR2.out.mono ?_;rintro e w7 (⟨hok,rfl,hb⟩| ⟨hok,rfl,hf⟩)
 ·go_wp2_with fail
  go_end0
  exact Sd.done (by rw[← HO.out,hok]) rfl hb.drop
 ·go_wp2_with fail;exact⟨rfl,Sd.gave (by rw[← HO.out,hok]) hf⟩
theorem inner_20(w0:World)(ok:Nat→Prop)(P N:Nat)(hV:Dx w0)(ih:EC w0 ok P N):IC1 w0 ok P (N+1) 20:=by
 intro a nm n s ls args arms A5 A6 A7 c5 c6 c7 rs l wr hN hs hx hR hb hl;obtain⟨⟨hs1,hs2,hs3,hs4⟩,hs5,hs6⟩:=hs;obtain⟨h,hh,hr⟩:=hR;simp[Bt] at hh;subst hh;have hfa:nm=[]∧n=0∧s=[]∧ls=[]∧args.length=2∧arms=[]:=by simpa [Ah,and_assoc] using hr
 obtain⟨rfl,rfl,rfl,rfl,t,rfl⟩:=hfa;clear hr;obtain⟨x,y,rfl⟩:=Ib t;clear t;have HV:=Hz hV;have hsz:szE (.mk 20 a [] 0 [] [] [x,y] [])=1+B1 [x,y]:=by simp[szE,Cd]
 rw[hsz] at hN
 cases hx with
 | mk d5 d6 dp de h5 e5 h6 e6 h7 e7 e8 =>
 have HW:Hid (l++E2 [[],[59,32]] (Az [x,y])=l++Bc 20 [] 0 (Az [x,y]) (Cr [])):=Hz (by simp[Bc,E2,Az,opT]);rw[← La'] at hl;have HO:Hid (Au [x,y]=(A9 20 [] 0 [] (Dp [x,y])&&Au [x,y]&&A0 [])):=Hz (by simp[A9,A0])
 generalize l++Bc 20 [] 0 (Az [x,y]) (Cr [])=M at *
 generalize (A9 20 [] 0 [] (Dp [x,y])&&Au [x,y]&&A0 [])=O at *
 have cR:=fun w rz hb=>Hz (WB.row (wr:=w) (rs:=rz) ih h6 e6 (by omega) hs5 (by simp) hb [[],[59,32]] 2 HW.out hl (by simp) (by simp))
 clear h5 e5 h6 e6 h7 e7 e8 hN hs5 hl hsz ih;have hb0:=hb.new (.cells #[vI 20,vI a,vE,vI 0,vE,.slice A5 0 c5,.slice A6 2 c6,.slice A7 0 c7] 35);have hq:(wr.alloc (.cells #[vI 20,vI a,vE,vI 0,vE,.slice A5 0 c5,.slice A6 2 c6,.slice A7 0 c7] 35)).heap.size=wr.heap.size+1:=by simp
 have cR2:=cR _ _ hb0;rw[hq] at cR2;go_enter func72,ntmps72;go_wp2_with fail;refine cR2.out.mono ?_;rintro e w7 (⟨hok,rfl,hb⟩| ⟨hok,rfl,hf⟩)
 ·go_wp2_with fail
  go_end0
  exact Sd.done (by rw[← HO.out,hok]) rfl hb.drop
 ·go_wp2_with fail;exact⟨rfl,Sd.gave (by rw[← HO.out,hok]) hf⟩
theorem inner_21(w0:World)(ok:Nat→Prop)(P N:Nat)(hV:Dx w0)(ih:EC w0 ok P N):IC1 w0 ok P (N+1) 21:=by
 intro a nm n s ls args arms A5 A6 A7 c5 c6 c7 rs l wr hN hs hx hR hb hl;obtain⟨⟨hs1,hs2,hs3,hs4⟩,hs5,hs6⟩:=hs;obtain⟨h,hh,hr⟩:=hR;simp[Bt] at hh;subst hh;have hfa:nm=[]∧n=0∧s=[]∧ls=[]∧args.length=2∧arms=[]:=by simpa [Ah,and_assoc] using hr
 obtain⟨rfl,rfl,rfl,rfl,t,rfl⟩:=hfa;clear hr;obtain⟨x,y,rfl⟩:=Ib t;clear t;have HV:=Hz hV;have hsz:szE (.mk 21 a [] 0 [] [] [x,y] [])=1+B1 [x,y]:=by simp[szE,Cd]
 rw[hsz] at hN
 cases hx with
 | mk d5 d6 dp de h5 e5 h6 e6 h7 e7 e8 =>
 have HW:Hid (l++E2 [[],[32,38,38,32]] (Az [x,y])=l++Bc 21 [] 0 (Az [x,y]) (Cr [])):=Hz (by simp[Bc,E2,Az,opT]);rw[← La'] at hl;have HO:Hid (Au [x,y]=(A9 21 [] 0 [] (Dp [x,y])&&Au [x,y]&&A0 [])):=Hz (by simp[A9,A0])
 generalize l++Bc 21 [] 0 (Az [x,y]) (Cr [])=M at *
 generalize (A9 21 [] 0 [] (Dp [x,y])&&Au [x,y]&&A0 [])=O at *
 have cR:=fun w rz hb=>Hz (WB.row (wr:=w) (rs:=rz) ih h6 e6 (by omega) hs5 (by simp) hb [[],[32,38,38,32]] 2 HW.out hl (by simp) (by simp))
 clear h5 e5 h6 e6 h7 e7 e8 hN hs5 hl hsz ih;have hb0:=hb.new (.cells #[vI 21,vI a,vE,vI 0,vE,.slice A5 0 c5,.slice A6 2 c6,.slice A7 0 c7] 35);have hq:(wr.alloc (.cells #[vI 21,vI a,vE,vI 0,vE,.slice A5 0 c5,.slice A6 2 c6,.slice A7 0 c7] 35)).heap.size=wr.heap.size+1:=by simp
 have cR2:=cR _ _ hb0;rw[hq] at cR2;go_enter func72,ntmps72;go_wp2_with fail;refine cR2.out.mono ?_;rintro e w7 (⟨hok,rfl,hb⟩| ⟨hok,rfl,hf⟩)
 ·go_wp2_with fail
  go_end0
  exact Sd.done (by rw[← HO.out,hok]) rfl hb.drop
 ·go_wp2_with fail;exact⟨rfl,Sd.gave (by rw[← HO.out,hok]) hf⟩
theorem inner_22(w0:World)(ok:Nat→Prop)(P N:Nat)(hV:Dx w0)(ih:EC w0 ok P N):IC1 w0 ok P (N+1) 22:=by
 intro a nm n s ls args arms A5 A6 A7 c5 c6 c7 rs l wr hN hs hx hR hb hl;obtain⟨⟨hs1,hs2,hs3,hs4⟩,hs5,hs6⟩:=hs;obtain⟨h,hh,hr⟩:=hR;simp[Bt] at hh;subst hh;have hfa:nm=[]∧n=0∧s=[]∧ls=[]∧args.length=2∧arms=[]:=by simpa [Ah,and_assoc] using hr
 obtain⟨rfl,rfl,rfl,rfl,t,rfl⟩:=hfa;clear hr;obtain⟨x,y,rfl⟩:=Ib t;clear t;have HV:=Hz hV;have hsz:szE (.mk 22 a [] 0 [] [] [x,y] [])=1+B1 [x,y]:=by simp[szE,Cd]
 rw[hsz] at hN
 cases hx with
 | mk d5 d6 dp de h5 e5 h6 e6 h7 e7 e8 =>
 have HW:Hid (l++E2 [[],[32,124,124,32]] (Az [x,y])=l++Bc 22 [] 0 (Az [x,y]) (Cr [])):=Hz (by simp[Bc,E2,Az,opT]);rw[← La'] at hl;have HO:Hid (Au [x,y]=(A9 22 [] 0 [] (Dp [x,y])&&Au [x,y]&&A0 [])):=Hz (by simp[A9,A0])
 generalize l++Bc 22 [] 0 (Az [x,y]) (Cr [])=M at *
 generalize (A9 22 [] 0 [] (Dp [x,y])&&Au [x,y]&&A0 [])=O at *
 have cR:=fun w rz hb=>Hz (WB.row (wr:=w) (rs:=rz) ih h6 e6 (by omega) hs5 (by simp) hb [[],[32,124,124,32]] 2 HW.out hl (by simp) (by simp))
 clear h5 e5 h6 e6 h7 e7 e8 hN hs5 hl hsz ih;have hb0:=hb.new (.cells #[vI 22,vI a,vE,vI 0,vE,.slice A5 0 c5,.slice A6 2 c6,.slice A7 0 c7] 35);have hq:(wr.alloc (.cells #[vI 22,vI a,vE,vI 0,vE,.slice A5 0 c5,.slice A6 2 c6,.slice A7 0 c7] 35)).heap.size=wr.heap.size+1:=by simp
 have cR2:=cR _ _ hb0;rw[hq] at cR2;go_enter func72,ntmps72;go_wp2_with fail;refine cR2.out.mono ?_;rintro e w7 (⟨hok,rfl,hb⟩| ⟨hok,rfl,hf⟩)
 ·go_wp2_with fail
  go_end0
  exact Sd.done (by rw[← HO.out,hok]) rfl hb.drop
 ·go_wp2_with fail;exact⟨rfl,Sd.gave (by rw[← HO.out,hok]) hf⟩
theorem Tt(w0:World)(ok:Nat→Prop)(P N:Nat)(hE:EC w0 ok P N)(hP:PC w0 ok P N)(k a:Int)(nm:LB)(n:Int)(s:LB)(x:Ab)(arms:List (Ak×Ab))(A5 A6 A7:Option Addr)(m5 c5 c6 c7:Nat)(cs cp ce:Nat→List Value)(h6:Dy w0 ok (.slice A6 1 c6) 1 8 cs)(e6:Aj w0 ok x (cs 0))(h7:Dy w0 ok (.slice A7 arms.length c7) arms.length 15 (fun i=>cp i++ce i))(e7:∀ (i:Nat)(p:Ak)(x:Ab),arms[i]?=some (p,x)→Bd w0 ok p (cp i))(e8:∀ (i:Nat)(p:Ak)(x:Ab),arms[i]?=some (p,x)→Aj w0 ok x (ce i))(hN:szE x+Cd arms<N)(hB:N≤1099511627776)(hs:SwE x)(hs2:Ny arms)(rs:List (Nat×Obj))(l M:LB)(wr:World)(hb:WB w0 P rs l wr)(hM:l++(txE x++([32,119,105,116,104,32]++(Gj (decide (0=0)) (Cr (arms.drop 0))++[32,101,110,100])))=M)(hl:M.length≤70368744177664):
  Calls prog 107 #[.pointer (some ⟨P,0,none⟩),.agg #[vI k,vI a,vS nm,vI n,vS s,.slice A5 m5 c5,.slice A6 1 c6,.slice A7 arms.length c7]] wr (Sd w0 P rs M (Be x&&A0 arms)):=by
 have HW:=Hz hM;have HL:=Hz hl;have IH:=Hz hE;have IP:=Hz hP;have H6:=Hz h6;have E6:=Hz e6;have H7:=Hz h7;have E7:Hid (∀ (i:Nat) (p:Ak) (x:Ab),arms[i]?=some (p,x)→Bd w0 ok p (cp i)):=Hz e7;have E8:Hid (∀ (i:Nat) (p:Ak) (x:Ab),arms[i]?=some (p,x)→Aj w0 ok x (ce i)):=Hz e8;have HN:=Hz hN;have HS:=Hz hs;have HS2:=Hz hs2;have hal:(arms.length:Int)≤1099511627776:=by have:=Td arms;omega
 clear hM hl hE hP h6 e6 h7 e7 e8 hN hB hs hs2;have hb0:=hb.new (.cells #[vI k,vI a,vS nm,vI n,vS s,.slice A5 m5 c5,.slice A6 1 c6,.slice A7 arms.length c7] 35);obtain⟨g,o,hA,hg,hc⟩:=H6.out.elem hb0.frame (i:=0) (by simp);subst hA;simp only[Nat.zero_mul,Nat.add_zero] at hc;obtain⟨k2,a2,nm2,n2,s2,ls2,args2,arms2,A52,c52,A62,c62,A72,c72,rfl,hx2,x0,x1,x2,x3,x4,x5,x6,x7⟩:=E6.out.told hc;have C2:=Hz (IH.out k2 a2 nm2 n2 s2 ls2 args2 arms2 A52 A62 A72 c52 c62 c72 _ _ _ (by have:=HN.out;omega) HS.out hx2 hb0 (by have:=Ax HW.out HL.out;omega));clear hc hx2 hb
 generalize hX:Be (.mk k2 a2 nm2 n2 s2 ls2 args2 arms2)=O1 at *
 generalize hZ:txE (.mk k2 a2 nm2 n2 s2 ls2 args2 arms2)=tx at *
 clear hX hZ;go_enter func107,ntmps107;go_wp2_with fail
 generalize wr.heap.size=T at *
 refine C2.out.mono ?_;rintro e w3 (⟨hok,rfl,hb⟩| ⟨hok,rfl,hf⟩)
 ·have HW1:=Hz (Aw HW.out);clear x0 x1 x2 x3 x4 x5 x6 x7 C2;subst hok;have HO:Hid (A0 (arms.drop 0)=(true&&A0 arms)):=Hz rfl
  generalize (true&&A0 arms)=O at *
  obtain⟨⟨l0,l1,l2,l3,l4,l5,l6,l7⟩,_⟩:=Ac (hb.at (Lm' ..));go_wp2_with fail;clear l0 l1 l2 l3 l4 l5 l6 l7;refine(hb.add1 [32,119,105,116,104,32] _ (by have:=Ax HW1.out HL.out;omega)).mono ?_;rintro e w4 ⟨rfl,hb⟩;have HW2:=Hz (Aw HW1.out);obtain⟨⟨l0,l1,l2,l3,l4,l5,l6,l7⟩,_⟩:=Ac (hb.at (Lm' ..));go_wp2_with fail;clear l0 l1 l2 l3 l4 l5 l6 l7 HW HW1
  go_loopw [18] (fun iv wx=>∃ (i:Nat) (m:LB),iv=vI i∧i≤arms.length∧WB w0 P ((T,.cells #[vI k,vI a,vS nm,vI n,vS s,.slice A5 m5 c5,.slice (some ⟨g,o,none⟩) 1 c6,.slice A7 arms.length c7] 35)::rs) m wx∧Hid (m++(Gj (decide (i=0)) (Cr (arms.drop i))++[32,101,110,100])=M)∧Hid (A0 (arms.drop i)=O)) (fun iv wx=>arms.length-(intOf iv).toNat)
  case atStart=>exact⟨0,_,rfl,by omega,hb,HW2,HO⟩
  case round =>
   obtain⟨i,m,rfl,hi,hb,HW,HO⟩:=hrel;clear HW2;by_cases hlt:i<arms.length
   ·obtain⟨⟨p,y⟩,hx⟩:∃ x,arms[i]?=some x:=⟨arms[i],Lg' hlt⟩
    obtain⟨D,hD⟩:∃ D:LB,D=if decide (i=0)=true then [] else [32,124,32]:=⟨_,rfl⟩
    have hw:m++(D++(txP p++([32,45,62,32]++(txE y++(Gj (decide (i+1=0)) (Cr (arms.drop (i+1)))++[32,101,110,100])))))=M:=by rw[← HW.out,arm_at hx,hD];simp[Ls']
    have ho:((Ct p&&Be y)&&A0 (arms.drop (i+1)))=O:=by rw[← HO.out,Xe hx]
    have HX:=Hz hx;have HW1:=Hz (Aw hw);have HO1:=Hz ho;have HDD:=Hz hD;have hml:=Hz (Ax hw HL.out);obtain⟨g7,o7,hA7,hg7,hc7⟩:=H7.out.elem hb.frame hlt;subst hA7;obtain⟨k3,a3,nm3,n3,s3,ls3,args3,A53,c53,A63,c63,k2,a2,nm2,n2,s2,ls2,args2,arms2,A52,c52,A62,c62,A72,c72,rfl,rfl,hp2,hx2,y0,y1,y2,y3,y4,y5,y6,y7,y8,y9,y10,y11,y12,y13,y14⟩:=arm_told (E7.out i _ _ hx) (E8.out i _ _ hx) hc7;clear hx hw ho hc7 hD;have q1:(0:Int)≤(i:Int):=by omega
    have q2:(i:Int)<(arms.length:Int):=by omega
    have hq:(wr.alloc (.cells #[vI k3,vI a3,vS nm3,vI n3,vS s3,.slice A53 ls3.length c53,.slice A63 args3.length c63,vI k2,vI a2,vS nm2,vI n2,vS s2,.slice A52 ls2.length c52,.slice A62 args2.length c62,.slice A72 arms2.length c72] 46)).heap.size=wr.heap.size+1:=by simp
    replace hb:=hb.new (.cells #[vI k3,vI a3,vS nm3,vI n3,vS s3,.slice A53 ls3.length c53,.slice A63 args3.length c63,vI k2,vI a2,vS nm2,vI n2,vS s2,.slice A52 ls2.length c52,.slice A62 args2.length c62,.slice A72 arms2.length c72] 46);by_cases h0:i=0
    ·have hi0:¬ (0:Int)<(i:Int):=by omega
     have hD:D=[]:=by rw[HDD.out];simp[h0]
     have HW2:Hid (m++(txP (.mk k3 a3 nm3 n3 s3 ls3 args3)++([32,45,62,32]++(txE (.mk k2 a2 nm2 n2 s2 ls2 args2 arms2)++(Gj (decide (i+1=0)) (Cr (arms.drop (i+1)))++[32,101,110,100]))))=M):=Hz (by have:=HW1.out;rw[hD,List.append_nil] at this;exact this);clear hD h0;go_wp2_with fail
     generalize wr.heap.size=Tx at *
     clear y0 y1 y2 y3 y4 y5 y6 y7 y8 y9 y10 y11 y12 y13 y14;obtain⟨m0,m1,m2,m3,m4,m5',m6',m7,m8,m9,m10,m11,m12,m13,m14⟩:=J5 (hb.at (Lm' ..));have C3:=Hz (IP.out k3 a3 nm3 n3 s3 ls3 args3 A53 A63 c53 c63 _ _ _ (by have:=Fd HX.out;have:=HN.out;omega) (HS2.out.get HX.out).1 hp2 hb (by have:=Ax HW2.out HL.out;omega));clear hp2;go_wp2_with fail;refine C3.out.mono ?_;rintro e w6 (⟨hok3,rfl,hb⟩| ⟨hok3,rfl,hf⟩)
     ·have HW3:=Hz (Aw HW2.out);clear C3 m0 m1 m2 m3 m4 m5' m6' m7 m8 m9 m10 m11 m12 m13 m14;obtain⟨m0,m1,m2,m3,m4,m5',m6',m7,m8,m9,m10,m11,m12,m13,m14⟩:=J5 (hb.at (Lm' ..));go_wp2_with fail;refine(hb.add1 [32,45,62,32] _ (by have:=Ax HW3.out HL.out;omega)).mono ?_;rintro e w7 ⟨rfl,hb⟩;have HW4:=Hz (Aw HW3.out);clear m0 m1 m2 m3 m4 m5' m6' m7 m8 m9 m10 m11 m12 m13 m14;obtain⟨m0,m1,m2,m3,m4,m5',m6',m7,m8,m9,m10,m11,m12,m13,m14⟩:=J5 (hb.at (Lm' ..));have C4:=Hz (IH.out k2 a2 nm2 n2 s2 ls2 args2 arms2 A52 A62 A72 c52 c62 c72 _ _ _ (by have:=Fd HX.out;have:=HN.out;omega) (HS2.out.get HX.out).2 hx2 hb (by have:=Ax HW4.out HL.out;omega));clear hx2;go_wp2_with fail;refine C4.out.mono ?_;rintro e w8 (⟨hok4,rfl,hb⟩| ⟨hok4,rfl,hf⟩)
      ·have HW5:=Hz (Aw HW4.out);have HO2:=Hz HO1.out;rw[hok3,hok4,Bool.true_and,Bool.true_and] at HO2;clear hok3 hok4 C4 HW1 HW2 HW3 HW4 HO1 HW HO HDD m0 m1 m2 m3 m4 m5' m6' m7 m8 m9 m10 m11 m12 m13 m14;go_wp2_with fail
       go_roundw
       case rel=>exact⟨i+1,_,by simp,by omega,hb.drop,HW5,HO2⟩
       case measure=>simp[intOf];omega
      ·go_wp2_with fail;exact⟨rfl,Sd.gave (by rw[← HO1.out,hok4];simp) hf⟩
     ·go_wp2_with fail;exact⟨rfl,Sd.gave (by rw[← HO1.out,hok3];simp) hf⟩
    ·have hi0:(0:Int)<(i:Int):=by omega
     have hD:D=[32,124,32]:=by rw[HDD.out];simp[h0]
     clear h0;go_wp2_with fail
     generalize wr.heap.size=Tx at *
     refine(WB.add1q hq hb [32,124,32] _ (by have:=hml.out;rw[hD] at this;omega)).mono ?_;rintro e w5 ⟨rfl,hb⟩;have HW2:=HW1;rw[hD] at HW2;clear hD;clear y0 y1 y2 y3 y4 y5 y6 y7 y8 y9 y10 y11 y12 y13 y14;obtain⟨m0,m1,m2,m3,m4,m5',m6',m7,m8,m9,m10,m11,m12,m13,m14⟩:=J5 (hb.at (Lm' ..));have C3:=Hz (IP.out k3 a3 nm3 n3 s3 ls3 args3 A53 A63 c53 c63 _ _ _ (by have:=Fd HX.out;have:=HN.out;omega) (HS2.out.get HX.out).1 hp2 hb (by have:=Ax HW2.out HL.out;omega));clear hp2;go_wp2_with fail;refine C3.out.mono ?_;rintro e w6 (⟨hok3,rfl,hb⟩| ⟨hok3,rfl,hf⟩)
     ·have HW3:=Hz (Aw HW2.out);clear C3 m0 m1 m2 m3 m4 m5' m6' m7 m8 m9 m10 m11 m12 m13 m14;obtain⟨m0,m1,m2,m3,m4,m5',m6',m7,m8,m9,m10,m11,m12,m13,m14⟩:=J5 (hb.at (Lm' ..));go_wp2_with fail;refine(hb.add1 [32,45,62,32] _ (by have:=Ax HW3.out HL.out;omega)).mono ?_;rintro e w7 ⟨rfl,hb⟩;have HW4:=Hz (Aw HW3.out);clear m0 m1 m2 m3 m4 m5' m6' m7 m8 m9 m10 m11 m12 m13 m14;obtain⟨m0,m1,m2,m3,m4,m5',m6',m7,m8,m9,m10,m11,m12,m13,m14⟩:=J5 (hb.at (Lm' ..));have C4:=Hz (IH.out k2 a2 nm2 n2 s2 ls2 args2 arms2 A52 A62 A72 c52 c62 c72 _ _ _ (by have:=Fd HX.out;have:=HN.out;omega) (HS2.out.get HX.out).2 hx2 hb (by have:=Ax HW4.out HL.out;omega));clear hx2;go_wp2_with fail;refine C4.out.mono ?_;rintro e w8 (⟨hok4,rfl,hb⟩| ⟨hok4,rfl,hf⟩)
      ·have HW5:=Hz (Aw HW4.out);have HO2:=Hz HO1.out;rw[hok3,hok4,Bool.true_and,Bool.true_and] at HO2;clear hok3 hok4 C4 HW1 HW2 HW3 HW4 HO1 HW HO HDD m0 m1 m2 m3 m4 m5' m6' m7 m8 m9 m10 m11 m12 m13 m14;go_wp2_with fail
       go_roundw
       case rel=>exact⟨i+1,_,by simp,by omega,hb.drop,HW5,HO2⟩
       case measure=>simp[intOf];omega
      ·go_wp2_with fail;exact⟨rfl,Sd.gave (by rw[← HO1.out,hok4];simp) hf⟩
     ·go_wp2_with fail;exact⟨rfl,Sd.gave (by rw[← HO1.out,hok3];simp) hf⟩
   ·have ei:i=arms.length:=by omega
    subst ei;have hw:=HW.out;rw[arm_end (Nr' _)] at hw;have ho:=HO.out;rw[mayAs_end (Nr' _)] at ho;go_wp2_with fail;refine(hb.add1 [32,101,110,100] _ (by have h1:=congrArg List.length hw;have h2:=HL.out;simp only[La',Ln',Lc'] at h1 ⊢;omega)).mono ?_;rintro e w4 ⟨rfl,hb⟩;go_wp2_with fail
    go_end0
    exact Sd.done ho.symm (by rw[← hw];simp) hb.drop
 ·go_wp2_with fail;exact⟨rfl,Sd.gave (by simp[hok]) hf⟩
theorem inner_16(w0:World)(ok:Nat→Prop)(P N:Nat)(hB:N≤1099511627775)(ih:EC w0 ok P N)(hP:PC w0 ok P N):IC1 w0 ok P (N+1) 16:=by
 intro a nm n s ls args arms A5 A6 A7 c5 c6 c7 rs l wr hN hs hx hR hb hl;obtain⟨⟨hs1,hs2,hs3,hs4⟩,hs5,hs6⟩:=hs;obtain⟨h,hh,hr⟩:=hR;simp[Bt] at hh;subst hh;have hfa:nm=[]∧n=0∧s=[]∧ls=[]∧args.length=1∧0<arms.length:=by simpa [Ah,and_assoc] using hr
 obtain⟨rfl,rfl,rfl,rfl,t,tm⟩:=hfa;clear hr;obtain⟨x,rfl⟩:=Id t;clear t;have hsz:szE (.mk 16 a [] 0 [] [] [x] arms)=1+(szE x+Cd arms):=by simp[szE,B1]
 rw[hsz] at hN
 cases hx with
 | mk d5 d6 dp de h5 e5 h6 e6 h7 e7 e8 =>
 have HW:Hid (l++([109,97,116,99,104,32]++(txE x++([32,119,105,116,104,32]++(Gj (decide (0=0)) (Cr (arms.drop 0))++[32,101,110,100]))))=l++Bc 16 [] 0 (Az [x]) (Cr arms)):=Hz (by simp[Bc,Az]);rw[← La'] at hl;have HO:Hid ((Be x&&A0 arms)=(A9 16 [] 0 [] (Dp [x])&&Au [x]&&A0 arms)):=Hz (by simp[A9,Au])
 generalize l++Bc 16 [] 0 (Az [x]) (Cr arms)=M at *
 generalize (A9 16 [] 0 [] (Dp [x])&&Au [x]&&A0 arms)=O at *
 have HL:=Hz hl;have cA:=fun w rz l' hb hM=>Hz (Tt w0 ok P N ih hP 16 a [] 0 [] x arms A5 A6 A7 0 c5 c6 c7 d6 dp de h6 (e6 0 x rfl) h7 e7 e8 (by omega) (by omega) hs5.1 hs6 rz l' M w hb hM hl)
 clear h5 e5 h6 e6 h7 e7 e8 hN hs5 hs6 hl hsz ih hP;have hq:(wr.alloc (.cells #[vI 16,vI a,vE,vI 0,vE,.slice A5 0 c5,.slice A6 1 c6,.slice A7 arms.length c7] 35)).heap.size=wr.heap.size+1:=by simp
 have hb0:=hb.new (.cells #[vI 16,vI a,vE,vI 0,vE,.slice A5 0 c5,.slice A6 1 c6,.slice A7 arms.length c7] 35);go_enter func72,ntmps72;go_wp2_with fail;refine(WB.add1q hq hb0 [109,97,116,99,104,32] _ (by have:=Ax HW.out HL.out;omega)).mono ?_;rintro e w4 ⟨rfl,hb⟩;clear hb0 hq
 generalize wr.heap.size=T at *
 obtain⟨⟨l0,l1,l2,l3,l4,l5,l6,l7⟩,_⟩:=Ac (hb.at (Lm' ..));go_wp2_with fail;refine(cA _ _ _ hb (Aw HW.out)).out.mono ?_;rintro e w5 (⟨hok,rfl,hb⟩| ⟨hok,rfl,hf⟩)
 ·go_wp2_with fail
  go_end0
  exact Sd.done (by rw[← HO.out,hok]) rfl hb.drop
 ·go_wp2_with fail;exact⟨rfl,Sd.gave (by rw[← HO.out,hok]) hf⟩
theorem inner_17(w0:World)(ok:Nat→Prop)(P N:Nat)(hB:N≤1099511627775)(ih:EC w0 ok P N)(hP:PC w0 ok P N):IC1 w0 ok P (N+1) 17:=by
 intro a nm n s ls args arms A5 A6 A7 c5 c6 c7 rs l wr hN hs hx hR hb hl;obtain⟨⟨hs1,hs2,hs3,hs4⟩,hs5,hs6⟩:=hs;obtain⟨h,hh,hr⟩:=hR;simp[Bt] at hh;subst hh;have hfa:nm=[]∧n=0∧s=[]∧ls=[]∧args.length=1∧0<arms.length:=by simpa [Ah,and_assoc] using hr
 obtain⟨rfl,rfl,rfl,rfl,t,tm⟩:=hfa;clear hr;obtain⟨x,rfl⟩:=Id t;clear t;have hsz:szE (.mk 17 a [] 0 [] [] [x] arms)=1+(szE x+Cd arms):=by simp[szE,B1]
 rw[hsz] at hN
 cases hx with
 | mk d5 d6 dp de h5 e5 h6 e6 h7 e7 e8 =>
 have HW:Hid (l++([116,114,121,32]++(txE x++([32,119,105,116,104,32]++(Gj (decide (0=0)) (Cr (arms.drop 0))++[32,101,110,100]))))=l++Bc 17 [] 0 (Az [x]) (Cr arms)):=Hz (by simp[Bc,Az]);rw[← La'] at hl;have HO:Hid ((Be x&&A0 arms)=(A9 17 [] 0 [] (Dp [x])&&Au [x]&&A0 arms)):=Hz (by simp[A9,Au])
 generalize l++Bc 17 [] 0 (Az [x]) (Cr arms)=M at *
 generalize (A9 17 [] 0 [] (Dp [x])&&Au [x]&&A0 arms)=O at *
 have HL:=Hz hl;have cA:=fun w rz l' hb hM=>Hz (Tt w0 ok P N ih hP 17 a [] 0 [] x arms A5 A6 A7 0 c5 c6 c7 d6 dp de h6 (e6 0 x rfl) h7 e7 e8 (by omega) (by omega) hs5.1 hs6 rz l' M w hb hM hl)
 clear h5 e5 h6 e6 h7 e7 e8 hN hs5 hs6 hl hsz ih hP;have hq:(wr.alloc (.cells #[vI 17,vI a,vE,vI 0,vE,.slice A5 0 c5,.slice A6 1 c6,.slice A7 arms.length c7] 35)).heap.size=wr.heap.size+1:=by simp
 have hb0:=hb.new (.cells #[vI 17,vI a,vE,vI 0,vE,.slice A5 0 c5,.slice A6 1 c6,.slice A7 arms.length c7] 35);go_enter func72,ntmps72;go_wp2_with fail;refine(WB.add1q hq hb0 [116,114,121,32] _ (by have:=Ax HW.out HL.out;omega)).mono ?_;rintro e w4 ⟨rfl,hb⟩;clear hb0 hq
 generalize wr.heap.size=T at *
 obtain⟨⟨l0,l1,l2,l3,l4,l5,l6,l7⟩,_⟩:=Ac (hb.at (Lm' ..));go_wp2_with fail;refine(cA _ _ _ hb (Aw HW.out)).out.mono ?_;rintro e w5 (⟨hok,rfl,hb⟩| ⟨hok,rfl,hf⟩)
 ·go_wp2_with fail
  go_end0
  exact Sd.done (by rw[← HO.out,hok]) rfl hb.drop
 ·go_wp2_with fail;exact⟨rfl,Sd.gave (by rw[← HO.out,hok]) hf⟩
theorem inner_19(w0:World)(ok:Nat→Prop)(P N:Nat)(ih:EC w0 ok P N):IC1 w0 ok P (N+1) 19:=by
 intro a nm n s ls args arms A5 A6 A7 c5 c6 c7 rs l wr hN hs hx hR hb hl;obtain⟨⟨hs1,hs2,hs3,hs4⟩,hs5,hs6⟩:=hs;obtain⟨h,hh,hr⟩:=hR;have hbd:1≤n∧n≤21:=Classical.byContradiction fun hc=>by simp[Bt,hc] at hh
 simp[Bt,hbd] at hh;subst hh;have hfa:nm=[]∧s=[]∧ls=[]∧args.length=Dc n∧arms=[]:=by simpa [Ah,and_assoc] using hr
 obtain⟨rfl,rfl,rfl,t,rfl⟩:=hfa;clear hr;have hsz:szE (.mk 19 a [] n [] [] args [])=1+B1 args:=by simp[szE,Cd]
 rw[hsz] at hN
 cases hx with
 | mk d5 d6 dp de h5 e5 h6 e6 h7 e7 e8 =>
 have hT:Bc 19 [] n (Az args) (Cr [])=opT n (Az args):=by simp[Bc]
 rw[hT] at hl ⊢;have HO:(A9 19 [] n [] (Dp args)&&Au args&&A0 [])=Au args:=by simp[A9,A0]
 rw[HO];clear HO hT;have cO:=fun w rz hb=>Hz (wop_any w0 ok P N ih n hbd.1 hbd.2 args A6 c6 d6 h6 e6 (by omega) hs5 t rz l w hb hl)
 have hb0:=hb.new (.cells #[vI 19,vI a,vE,vI n,vE,.slice A5 0 c5,.slice A6 args.length c6,.slice A7 0 c7] 35);clear h5 e5 h6 e6 h7 e7 e8 hN hs5 hl hsz ih t hbd
 generalize l++opT n (Az args)=M at *
 generalize Au args=O at *
 go_enter func72,ntmps72;go_wp2_with fail;refine(cO _ _ hb0).out.mono ?_;rintro e w5 (⟨hok,rfl,hb⟩| ⟨hok,rfl,hf⟩)
 ·go_wp2_with fail
  go_end0
  exact Sd.done (by simp[hok]) rfl hb.drop
 ·go_wp2_with fail;exact⟨rfl,Sd.gave (by simp[hok]) hf⟩
end
end Go.Proofs.YtabhpdhajajoiaaGreatDoor
