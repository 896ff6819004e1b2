/- A part of the proof: Hk, Vp, Va, Vb, Vb2, Vc, Vn, Vd, Vh. -/
import Derived.BigQuiet
import Derived.Deep.DrawnRows
import Derived.Deep.QuietTactic
import Derived.BigRegion
import Derived.Deep.RegionHeld3
import Derived.Test.YtlafbbnikgcdlaaGreatDoorKb7
import Derived.Test.YtlafbbnikgcdlaaGreatDoorKb8
namespace Go.Proofs.YtlafbbnikgcdlaaGreatDoor
open Go.RowKit
open _root_.Go.Proofs.Tryz
set_option linter.all false
set_option maxHeartbeats 16000000
set_option maxRecDepth 100000
variable{p:Prop}
open List renaming length_cons→Lc',length_append→La',getElem?_eq_getElem→Lg',mem_cons_self→Lm',length_nil→Ln',append_assoc→Ls'
open Nat renaming lt_of_lt_of_le→Nl',le_refl→Nr'
theorem Gn{α:Type}{l:List α}{i:Nat}{x:α}(h:l[i]?=some x):l.drop i=x::l.drop (i+1):=by
 obtain⟨hi,e⟩:=List.getElem?_eq_some_iff.1 h;rw[List.drop_eq_getElem_cons hi,e]
theorem Pu{l:List Ad}{i:Nat}{x:Ad}(h:l[i]?=some x):Bj (l.drop i)=txE x::Bj (l.drop (i+1)):=by rw[Gn h];rfl
theorem txPs_drop{l:List Al}{i:Nat}{x:Al}(h:l[i]?=some x):Ih (l.drop i)=txP x::Ih (l.drop (i+1)):=by rw[Gn h];rfl
theorem txAs_drop{l:List (Al×Ad)}{i:Nat}{p:Al}{x:Ad}(h:l[i]?=some (p,x)):Dp (l.drop i)=(txP p,txE x)::Dp (l.drop (i+1)):=by rw[Gn h];rfl
theorem N3{l:List Ad}{i:Nat}{x:Ad}(h:l[i]?=some x):Ax (l.drop i)=(Bh x&&Ax (l.drop (i+1))):=by rw[Gn h];rfl
theorem mayPs_drop{l:List Al}{i:Nat}{x:Al}(h:l[i]?=some x):Dt (l.drop i)=(Fb x&&Dt (l.drop (i+1))):=by rw[Gn h];rfl
theorem Z8{l:List (Al×Ad)}{i:Nat}{p:Al}{x:Ad}(h:l[i]?=some (p,x)):Bd (l.drop i)=((Fb p&&Bh x)&&Bd (l.drop (i+1))):=by rw[Gn h];rfl
def Gj:List LB→List LB→List UInt8
 | [],_=>[]
 | t::ts,[]=>t++Gj ts []
 | t::ts,x::xs=>t++(x++Gj ts xs)
section
variable {w0 wr:World} {ok:Nat→Prop} {A:Option Addr} {m n c size:Nat} {cs:Nat→List Value}
theorem En.elem(h:En w0 ok (.slice A m c) n size cs)(hf:Fr [] w0 wr){i:Nat}(hi:i<n):∃ g o,A=some ⟨g,o,none⟩∧g<wr.heap.size∧∀ (j:Nat)(v:Value),(cs i)[j]?=some v→wr.cell? ⟨g,o+i * size+j,none⟩=some v:=by
 obtain⟨g,o,rfl,rfl,hg,hk,hl,hc⟩:=h.row hi;exact⟨g,o,rfl,Nl' hg hf.size,fun j v hj=>(hf.cell (p:=⟨g,o+i * size+j,none⟩) hg (fun x=>by cases x)).trans (hc j v hj)⟩
theorem En.tail{g o:Nat}(h:En w0 ok (.slice (some ⟨g,o,none⟩) (n+1) c) (n+1) size cs):En w0 ok (.slice (some ⟨g,o+size,none⟩) n (c-1)) n size (fun i=>cs (i+1)):=by
 obtain⟨g',o',e,_,hg,hk,_⟩:=h.row (i:=0) oM;cases e;refine .inr ⟨g,o+size,c-1,rfl,hk,hg,(by have:=h.cap oM;omega),fun i hi=>?_⟩;obtain⟨g',o',e,_,hg,hk,hl,hc⟩:=h.row (i:=i+1) oM;cases e;refine⟨hl,fun j v hj=>?_⟩;have:=hc j v hj;rw[Nat.succ_mul] at this;rw[show o+size+i * size+j=o+(i * size+size)+j by omega];exact this
end
def V7(wr:World)(g o:Nat)(k a:Int)(nm:LB)(n:Int)(s:LB)(v5 v6 v7:Value):Prop :=
 wr.cell? ⟨g,o,none⟩=some (vI k)∧wr.cell? ⟨g,o+1,none⟩=some (vI a)∧wr.cell? ⟨g,o+2,none⟩=some (vS nm)∧wr.cell? ⟨g,o+3,none⟩=some (vI n)∧wr.cell? ⟨g,o+4,none⟩=some (vS s)∧wr.cell? ⟨g,o+5,none⟩=some v5∧wr.cell? ⟨g,o+6,none⟩=some v6∧wr.cell? ⟨g,o+7,none⟩=some v7
def Cell7(wr:World)(g o:Nat)(k a:Int)(nm:LB)(n:Int)(s:LB)(v5 v6:Value):Prop :=
 wr.cell? ⟨g,o,none⟩=some (vI k)∧wr.cell? ⟨g,o+1,none⟩=some (vI a)∧wr.cell? ⟨g,o+2,none⟩=some (vS nm)∧wr.cell? ⟨g,o+3,none⟩=some (vI n)∧wr.cell? ⟨g,o+4,none⟩=some (vS s)∧wr.cell? ⟨g,o+5,none⟩=some v5∧wr.cell? ⟨g,o+6,none⟩=some v6
theorem Ak.told{w0 wr:World}{ok:Nat→Prop}{x:Ad}{cs:List Value}(h:Ak w0 ok x cs){g o:Nat}(hc:∀ (j:Nat)(v:Value),cs[j]?=some v→wr.cell? ⟨g,o+j,none⟩=some v):
  ∃ k a nm n s ls args arms A5 c5 A6 c6 A7 c7,x = .mk k a nm n s ls args arms∧Ak w0 ok (.mk k a nm n s ls args arms) [vI k,vI a,vS nm,vI n,vS s,.slice A5 ls.length c5,.slice A6 args.length c6,.slice A7 arms.length c7]∧V7 wr g o k a nm n s (.slice A5 ls.length c5) (.slice A6 args.length c6) (.slice A7 arms.length c7):=by
 cases h with
 | @mk k a nm n s ls args arms v5 v6 v7 c5 c6 cp ce h5 e5 h6 e6 h7 e7 e8 =>
  obtain⟨A5,cc5,r5⟩:=h5.form;obtain⟨A6,cc6,r6⟩:=h6.form;obtain⟨A7,cc7,r7⟩:=h7.form;subst r5 r6 r7;exact⟨_,_,_,_,_,_,_,_,_,_,_,_,_,_,rfl,.mk c5 c6 cp ce h5 e5 h6 e6 h7 e7 e8,hc 0 _ rfl,hc 1 _ rfl,hc 2 _ rfl,hc 3 _ rfl,hc 4 _ rfl,hc 5 _ rfl,hc 6 _ rfl,hc 7 _ rfl⟩
theorem Bw.told{w0 wr:World}{ok:Nat→Prop}{x:Al}{cs:List Value}(h:Bw w0 ok x cs){g o:Nat}(hc:∀ (j:Nat)(v:Value),cs[j]?=some v→wr.cell? ⟨g,o+j,none⟩=some v):
  ∃ k a nm n s ls args A5 c5 A6 c6,x = .mk k a nm n s ls args∧Bw w0 ok (.mk k a nm n s ls args) [vI k,vI a,vS nm,vI n,vS s,.slice A5 ls.length c5,.slice A6 args.length c6]∧Cell7 wr g o k a nm n s (.slice A5 ls.length c5) (.slice A6 args.length c6):=by
 cases h with
 | @mk k a nm n s ls args v5 v6 c5 c6 h5 e5 h6 e6 =>
  obtain⟨A5,cc5,r5⟩:=h5.form;obtain⟨A6,cc6,r6⟩:=h6.form;subst r5 r6;exact⟨_,_,_,_,_,_,_,_,_,_,_,rfl,.mk c5 c6 h5 e5 h6 e6,hc 0 _ rfl,hc 1 _ rfl,hc 2 _ rfl,hc 3 _ rfl,hc 4 _ rfl,hc 5 _ rfl,hc 6 _ rfl⟩
def Lm.v(h:Lm):Value:=.agg #[.bool h.name,.bool h.n,.bool h.s,.bool h.labels,vI (h.args:Int),.bool h.arms]
section
variable {k a n:Int} {nm s:LB} {ls:List LB} {args:List Ad} {arms:List (Al×Ad)} {pats:List Al} {h:Lm}
theorem mayE_none(hh:Cc k n ls.length=none):Bh (.mk k a nm n s ls args arms)=false:=by
 rw[Bh,D3,hh];simp
theorem Rw(hh:Cc k n ls.length=some h)(hr:Ah h nm n s ls.length args.length arms.length=false):Bh (.mk k a nm n s ls args arms)=false:=by
 rw[Bh,D3,hh];simp[hr]
theorem Rv(hh:Cc k n ls.length=some h)(hr:Ah h nm n s ls.length args.length arms.length=true):Bh (.mk k a nm n s ls args arms)=(Bq k nm n ls (Er args)&&Ax args&&Bd arms):=by
 rw[Bh,D3,hh];simp[hr]
theorem mayP_none(hh:Ez k ls.length=none):Fb (.mk k a nm n s ls pats)=false:=by
 rw[Fb,Hm,hh];simp
theorem mayP_wrong(hh:Ez k ls.length=some h)(hr:Ah h nm n s ls.length pats.length 0=false):Fb (.mk k a nm n s ls pats)=false:=by
 rw[Fb,Hm,hh];simp[hr]
theorem mayP_right(hh:Ez k ls.length=some h)(hr:Ah h nm n s ls.length pats.length 0=true):Fb (.mk k a nm n s ls pats)=(E3 k nm n ls&&Dt pats):=by
 rw[Fb,Hm,hh];simp[hr]
end
section
variable {f:Bool} {ls:List LB} {i:Nat} {x:LB}
theorem rowE_at{l:List Ad}{y:Ad}(h1:ls[i]?=some x)(h2:l[i]?=some y):Jj f (ls.drop i) (Bj (l.drop i))=(if f=true then [] else [44,32])++(x++([32,61,32]++(txE y++Jj false (ls.drop (i+1)) (Bj (l.drop (i+1)))))):=by
 rw[Gn h1,Pu h2];rfl
theorem rowP_at{l:List Al}{y:Al}(h1:ls[i]?=some x)(h2:l[i]?=some y):Jj f (ls.drop i) (Ih (l.drop i))=(if f=true then [] else [44,32])++(x++([32,61,32]++(txP y++Jj false (ls.drop (i+1)) (Ih (l.drop (i+1)))))):=by
 rw[Gn h1,txPs_drop h2];rfl
theorem row_end{l:List LB}(h:ls.length≤i):Jj f (ls.drop i) l=[]:=by
 rw[List.drop_eq_nil_of_le h];cases l <;> rfl
theorem arm_at{l:List (Al×Ad)}{p:Al}{y:Ad}(h:l[i]?=some (p,y)):J3 f (Dp (l.drop i))=(if f=true then [] else [32,124,32])++(txP p++([32,45,62,32]++(txE y++J3 false (Dp (l.drop (i+1)))))):=by
 rw[txAs_drop h];rfl
theorem arm_end{l:List (Al×Ad)}(h:l.length≤i):J3 f (Dp (l.drop i))=[]:=by
 rw[List.drop_eq_nil_of_le h];rfl
theorem call_at{l:List Ad}{y:Ad}(h:l[i]?=some y):Ik (Bj (l.drop i))=32::(txE y++Ik (Bj (l.drop (i+1)))):=by
 rw[Pu h];rfl
theorem call_end{l:List Ad}(h:l.length≤i):Ik (Bj (l.drop i))=[]:=by
 rw[List.drop_eq_nil_of_le h];rfl
theorem allB_at(h1:ls[i]?=some x):(ls.drop i).all Aw=(Aw x&&(ls.drop (i+1)).all Aw):=by
 rw[Gn h1];rfl
end
section
variable {texts:List LB} {l:List Ad} {i:Nat} {t:LB} {x:Ad}
theorem rowT_in(h1:texts[i]?=some t)(h2:l[i]?=some x):Gj (texts.drop i) (Bj (l.drop i))=t++(txE x++Gj (texts.drop (i+1)) (Bj (l.drop (i+1)))):=by
 rw[Gn h1,Pu h2];rfl
theorem rowT_past(h1:texts[i]?=some t)(h2:l.length≤i):Gj (texts.drop i) (Bj (l.drop i))=t++Gj (texts.drop (i+1)) (Bj (l.drop (i+1))):=by
 rw[Gn h1,List.drop_eq_nil_of_le h2,List.drop_eq_nil_of_le (by omega:l.length≤i+1)];rfl
theorem rowT_end(h1:texts.length≤i):Gj (texts.drop i) (Bj (l.drop i))=[]:=by
 rw[List.drop_eq_nil_of_le h1];rfl
theorem Lb(h:l.length≤i):Ax (l.drop i)=true:=by rw[List.drop_eq_nil_of_le h];rfl
theorem mayPs_end{l:List Al}(h:l.length≤i):Dt (l.drop i)=true:=by rw[List.drop_eq_nil_of_le h];rfl
theorem mayAs_end{l:List (Al×Ad)}(h:l.length≤i):Bd (l.drop i)=true:=by rw[List.drop_eq_nil_of_le h];rfl
end
theorem Bb{m t r M:LB}(h:m++(t++r)=M){B:Nat}(hB:M.length≤B):m.length+t.length≤B:=by
 rw[← h] at hB;simp only[La'] at hB;omega
theorem Ba{m t r M:LB}(h:m++(t++r)=M):(m++t)++r=M:=by rw[← h,Ls']
theorem Dc{m M:LB}(h:m++[]=M):m=M:=by rw[← h,List.append_nil]
def TW:TypeId:=135
theorem btW:BT TW:=⟨by kernel_rfl,dC⟩
def fl:List PanicEntry:=[{ v:=.iface 172 (.agg #[vI 5]),recovered:=false }]
def WB(w0:World)(P:Nat)(rs:List (Nat×Obj))(l:LB)(wr:World):Prop :=
 ∃ own,L4 TW P own l wr∧(∀ g,own=some g→w0.heap.size≤g)∧w0.heap.size≤P∧Fr [] w0 wr∧∀ k o,(k,o) ∈ rs→wr.heap[k]?=some o∧k≠P∧own≠some k
section
variable {w0 wr w':World} {P:Nat} {rs:List (Nat×Obj)} {l:LB}
theorem WB.frame(h:WB w0 P rs l wr):Fr [] w0 wr:=by
 obtain⟨own,_,_,_,hf,_⟩:=h;exact hf
theorem WB.at(h:WB w0 P rs l wr){k:Nat}{o:Obj}(hm:(k,o) ∈ rs):wr.heap[k]?=some o:=by
 obtain⟨own,_,_,_,_,hr⟩:=h;exact(hr k o hm).1
theorem WB.fr(h:WB w0 P rs l wr)(hf:Fr [] wr w'):WB w0 P rs l w':=by
 exact qq166
theorem WB.new(h:WB w0 P rs l wr)(o:Obj):WB w0 P ((wr.heap.size,o)::rs) l (wr.alloc o):=by
 obtain⟨own,hb,hg,hbw,hfr,hr⟩:=h;have hf:=(Fr.refl [] wr).alloc o;have h1:=hb.lt;have h2:=hb.own_lt;refine⟨own,hb.keep hf (fun h=>by cases h) (fun _ _ h=>by cases h),hg,hbw,hfr.trans hf,fun k o' e=>?_⟩;rcases List.mem_cons.1 e with e|e
 ·cases e;exact⟨Ag wr o,oM,fun e=>by have:=h2 _ e;omega⟩
 ·obtain⟨h1,h2⟩:=hr k o' e;exact⟨hf.keep h1 (fun h=>by cases h),h2⟩
theorem WB.weak{rs':List (Nat×Obj)}(h:WB w0 P rs l wr)(hm:∀ x ∈ rs',x ∈ rs):WB w0 P rs' l wr:=by
 obtain⟨own,hb,hg,hbw,hfr,hr⟩:=h;exact⟨own,hb,hg,hbw,hfr,fun k o e=>hr k o (hm _ e)⟩
theorem WB.drop{x:Nat×Obj}(h:WB w0 P (x::rs) l wr):WB w0 P rs l wr:=h.weak fun _ hx=>List.mem_cons_of_mem _ hx
theorem WB.le(h:WB w0 P rs l wr):w0.heap.size≤wr.heap.size:=h.frame.size
theorem WB.write(h:WB w0 P rs l wr)(s:LB)(hlen:l.length+s.length≤140737488355328):
  Calls prog 112 #[.pointer (some ⟨P,0,none⟩),vS s] wr fun e w'=>e = .returned (.tuple #[vI s.length,.nilIface])∧WB w0 P rs (l++s) w':=by
 obtain⟨own,hb,hg,hbw,hfr,hr⟩:=h;refine(Nm TW btW P own l ⟨s.toArray⟩ wr hb hlen).mono ?_;rintro e w' ⟨rfl,⟨own',hb',hfp⟩,hf⟩;refine⟨rfl,own',hb',?_,hbw,hfr.step hf ?_,?_⟩
 ·intro g e;rcases hfp g e with h|h
  ·exact hg g h
  ·have:=hfr.size;omega
 ·exact qq222
 ·exact qq154
end
def Sd(w0:World)(P:Nat)(rs:List (Nat×Obj))(m:LB)(ok:Bool)(e:Ending)(w':World):Prop :=
 (ok=true∧e = .returned (.tuple #[])∧WB w0 P rs m w')∨(ok=false∧e = .panicked fl∧Fr [] w0 w')
def P6(ss:List LB):Obj:=.cells (ss.map fun s=>Value.string ⟨s.toArray⟩).toArray 9
theorem Sd.done{w0:World}{P:Nat}{rs:List (Nat×Obj)}{m M:LB}{O:Bool}{w:World}(hO:O=true)(hm:m=M)(hb:WB w0 P rs m w):Sd w0 P rs M O (.returned (.tuple #[])) w:=.inl ⟨hO,rfl,hm ▸ hb⟩
theorem Sd.gave{w0:World}{P:Nat}{rs:List (Nat×Obj)}{M:LB}{O:Bool}{w:World}(hO:O=false)(hf:Fr [] w0 w):Sd w0 P rs M O (.panicked fl) w:=.inr ⟨hO,rfl,hf⟩
theorem strs_at{w:World}{q i:Nat}{ss:List LB}{t:LB}(h:w.heap[q]?=some (P6 ss))(ht:ss[i]?=some t):w.cell? ⟨q,i,none⟩=some (vS t):=by
 unfold P6 at h;rw[Ab h];simp[ht]
theorem Ks(a b:LB):(⟨a.toArray⟩++⟨b.toArray⟩:ByteArray)=⟨(a++b).toArray⟩:=by
 apply ByteArray.ext;simp[ByteArray.data_append]
theorem Sv{ss:List LB}{i:Nat}{t:LB}(ht:ss[i]?=some t)(l:LB):l++(ss.take (i+1)).flatten=(l++(ss.take i).flatten)++t:=by
 obtain⟨hi,e⟩:=List.getElem?_eq_some_iff.1 ht;rw[List.take_succ_eq_append_getElem hi,e];simp
theorem W4:∀ ss:List LB,ss.flatten.length=sumL ss
 | []=>rfl
 | x::l=>by rw[List.flatten_cons,La',W4 l];rfl
theorem take_len{ss:List LB}{i:Nat}{t:LB}(ht:ss[i]?=some t):(ss.take i).flatten.length+t.length≤sumL ss:=by
 have h1:ss=ss.take i++ss.drop i:=(List.take_append_drop i ss).symm;have h2:=W4 ss;rw[h1,Gn ht,List.flatten_append,List.flatten_cons,La',La',← Gn ht,← h1] at h2;omega
theorem must_yes(w:World):Calls prog 79 #[.bool true] w fun e w'=>e = .returned (.tuple #[])∧w'=w:=by
 go_enter func79,ntmps79;go_wp2_with fail
 go_end0
 exact qq288
theorem must_no(w:World):Calls prog 79 #[.bool false] w fun e w'=>e = .panicked fl∧Fr [] w w':=by
 go_enter func79,ntmps79;go_wp2_with fail;exact⟨rfl,rfl,Fr.refl _ _⟩
theorem add_any(w0:World)(P q c:Nat)(rs:List (Nat×Obj))(l:LB)(ss:List LB)(wr:World)(h:WB w0 P rs l wr)(hq:(q,P6 ss) ∈ rs)(hlen:l.length+sumL ss≤140737488355328)(hn:ss.length≤1000000):
  Calls prog 83 #[.pointer (some ⟨P,0,none⟩),.slice (some ⟨q,0,none⟩) ss.length c] wr fun e w'=>e = .returned (.tuple #[])∧WB w0 P rs (l++ss.flatten) w':=by
 have HQ:=Hz hq;have HL:=Hz hlen;have hn':(ss.length:Int)≤1000000:=by omega
 clear hq hlen;go_enter func83,ntmps83;go_wp2_with fail
 go_loopw [8] (fun iv wx=>∃ i:Nat,iv=vI i∧i≤ss.length∧WB w0 P rs (l++(ss.take i).flatten) wx) (fun iv wx=>ss.length-(intOf iv).toNat)
 case atStart=>exact⟨0,rfl,oM,by simpa using h⟩
 case round =>
  obtain⟨i,rfl,hi,hb⟩:=hrel;by_cases hlt:i<ss.length
  ·obtain⟨t,ht⟩:∃ t,ss[i]?=some t:=⟨ss[i],Lg' hlt⟩
   have t0:=strs_at (hb.at HQ.out) ht;have hw:=hb.write t (by have:=take_len ht;have:=HL.out;rw[La'];omega);rw[← Sv ht] at hw;clear ht;have q1:(0:Int)≤(i:Int):=by omega
   have q2:(i:Int)<(ss.length:Int):=by omega
   go_wp2_with fail;refine hw.mono ?_;rintro e w2 ⟨rfl,hb⟩;go_wp2_with fail
   go_roundw
   case rel=>exact⟨i+1,sM,oM,hb⟩
   case measure=>simp[intOf];omega
  ·have ei:i=ss.length:=by omega
   subst ei;go_wp2_with fail
   go_end0
   rw[List.take_length] at hb;exact⟨rfl,hb⟩
section
variable {w0 wr:World} {P:Nat} {rs:List (Nat×Obj)} {l:LB}
theorem WB.adds(h:WB w0 P rs l wr)(ss:List LB)(c:Nat)(hlen:l.length+sumL ss≤140737488355328)(hn:ss.length≤1000000):
  Calls prog 83 #[.pointer (some ⟨P,0,none⟩),.slice (some ⟨wr.heap.size,0,none⟩) ss.length c] (wr.alloc (P6 ss)) fun e w'=>e = .returned (.tuple #[])∧WB w0 P rs (l++ss.flatten) w' :=
 (add_any w0 P wr.heap.size c _ l ss _ (h.new (P6 ss)) (Lm' ..) hlen hn).mono fun _ _ ⟨he,hb⟩=>⟨he,hb.drop⟩
theorem WB.add1(h:WB w0 P rs l wr)(x:LB)(c:Nat)(hlen:l.length+x.length≤140737488355328):
  Calls prog 83 #[.pointer (some ⟨P,0,none⟩),.slice (some ⟨wr.heap.size,0,none⟩) 1 c] (wr.alloc (.cells #[vS x] 9)) fun e w'=>e = .returned (.tuple #[])∧WB w0 P rs (l++x) w':=by
 have:=h.adds [x] c (by simp[sumL];omega) sM;rw[show [x].flatten=x by simp] at this;exact this
theorem WB.add2(h:WB w0 P rs l wr)(x y:LB)(c:Nat)(hlen:l.length+(x++y).length≤140737488355328):
  Calls prog 83 #[.pointer (some ⟨P,0,none⟩),.slice (some ⟨wr.heap.size,0,none⟩) 2 c] (wr.alloc (.cells #[vS x,vS y] 9)) fun e w'=>e = .returned (.tuple #[])∧WB w0 P rs (l++(x++y)) w':=by
 have:=h.adds [x,y] c (by simp[sumL] at *;omega) sM;rw[show [x,y].flatten=x++y by simp] at this;exact this
theorem WB.add3(h:WB w0 P rs l wr)(x y z:LB)(c:Nat)(hlen:l.length+(x++(y++z)).length≤140737488355328):
  Calls prog 83 #[.pointer (some ⟨P,0,none⟩),.slice (some ⟨wr.heap.size,0,none⟩) 3 c] (wr.alloc (.cells #[vS x,vS y,vS z] 9)) fun e w'=>e = .returned (.tuple #[])∧WB w0 P rs (l++(x++(y++z))) w':=by
 have:=h.adds [x,y,z] c (by simp[sumL] at *;omega) sM;rw[show [x,y,z].flatten=x++(y++z) by simp] at this;exact this
end
section
attribute [local go_sem ↓] Go.wp_at_zero Go.wp_at_succ
theorem arity_any(n:Int)(h1:1≤n)(h2:n≤21)(w:World):
  Calls prog 111 #[vI n] w fun e w'=>e = .returned (vI (D4 n))∧w=w':=by
 obtain rfl|rfl|rfl|rfl|rfl|rfl|rfl|rfl|rfl|rfl|rfl|rfl|rfl|rfl|rfl|rfl|rfl|rfl|rfl|rfl|rfl:n=1∨n=2∨n=3∨n=4∨n=5∨n=6∨n=7∨n=8∨n=9∨n=10∨n=11∨n=12∨n=13∨n=14∨n=15∨n=16∨n=17∨n=18∨n=19∨n=20∨n=21:=by omega
 all_goals
  go_enter func111,ntmps111;exact qq104
theorem Sk(vs:Array Value)(i:Nat)(hl:i<22)(v:Value)(hv:vs[i]?=some v)(W:World):
  (Instr.index 220 (.agg vs) (vI i)).run prog W = .ok v W:=by
 simp[Instr.index,asIntOf,part,go_sem,hl,hv]
theorem Oc(n:Int)(h1:1≤n)(h2:n≤21)(w:World):
  Calls prog 144 #[vI n] w fun e w'=>e = .returned (.string ⟨(Fj n).toArray⟩)∧w=w':=by
 obtain⟨i,rfl⟩:∃ i:Nat,n=i:=⟨n.toNat,oM⟩
 have hv:(#[vE,.string ⟨#[43]⟩,.string ⟨#[45]⟩,.string ⟨#[42]⟩,.string ⟨#[47]⟩,.string ⟨#[37]⟩,.string ⟨#[45]⟩,.string ⟨#[61]⟩,.string ⟨#[60]⟩,.string ⟨#[110,111,116]⟩,.string ⟨#[114,101,102]⟩,.string ⟨#[33]⟩,.string ⟨#[58,61]⟩,.string ⟨#[97,114,114,97,121]⟩,.string ⟨#[103,101,116]⟩,.string ⟨#[115,101,116]⟩,.string ⟨#[108,101,110]⟩,.string ⟨#[115,105,122,101]⟩,.string ⟨#[98,121,116,101]⟩,.string ⟨#[99,97,116]⟩,.string ⟨#[103,101,116,99]⟩,.string ⟨#[112,117,116,99]⟩]:Array Value)[i]?=some (.string ⟨(Fj i).toArray⟩):=by
  obtain rfl|rfl|rfl|rfl|rfl|rfl|rfl|rfl|rfl|rfl|rfl|rfl|rfl|rfl|rfl|rfl|rfl|rfl|rfl|rfl|rfl:i=1∨i=2∨i=3∨i=4∨i=5∨i=6∨i=7∨i=8∨i=9∨i=10∨i=11∨i=12∨i=13∨i=14∨i=15∨i=16∨i=17∨i=18∨i=19∨i=20∨i=21:=by omega
  all_goals rfl
 have hx:=fun W=>Sk _ i oM _ hv W
 clear hv;go_enter func144,ntmps144;exact qq104
theorem Uq(n:Int)(h:(n==0||n==1)=true)(w:World):
  Calls prog 87 #[vI n] w fun e w'=>e = .returned (.string ⟨(Ir n).toArray⟩)∧w'=w:=by
 have h:n=0∨n=1:=by simpa using h
 rcases h with rfl|rfl
 all_goals
  go_enter func87,ntmps87;go_wp2_with fail;refine(must_yes _).mono ?_;rintro e w1 ⟨rfl,rfl⟩;exact qq104
theorem Yz(n:Int)(h:(n==0||n==1)=false)(w:World):
  Calls prog 87 #[vI n] w fun e w'=>e = .panicked fl∧Fr [] w w':=by
 have h0:(n==0)=false:=by revert h;cases n==0 <;> simp
 have h1:(n==1)=false:=by revert h;cases n==1 <;> simp
 go_enter func87,ntmps87;go_wp2_with fail;refine(must_no _).mono ?_;rintro e w1 ⟨rfl,hf⟩;go_wp2_with fail;exact⟨rfl,rfl,hf⟩
theorem nn381(h:p:=by
 have hp:0<s.size:=by rw[← Bu];exact List.length_pos_iff.2 h0
 have hd:Eg s.data.toList=(C8 s[0]&&Aw (95::s.data.toList)):=by
  exact qq291
 have hcat:(⟨#[95]⟩++s:ByteArray).data.toList=95::s.data.toList:=by simp[ByteArray.data_append]
 have cN:=fun w hE=>Fx (⟨#[95]⟩++s) (by rw[← Bu,hcat,Lc',Bu];omega) w hE
 rw[hcat] at cN;have CN:=Hz cN;rw[hd];clear hd hcat cN
 have hg:C8 s[0]=(decide (65≤s[0].toNat)&&decide (s[0].toNat≤90)):=by
  unfold C8;rfl
 by_cases h1:65≤s[0].toNat
 ·by_cases h2:s[0].toNat≤90
  ·have hg:C8 s[0]=true:=by rw[hg];simp[h1,h2]
   rw[hg];go_enter func84,ntmps84;go_wp2_with fail;refine(CN.out _ hE).mono ?_;rintro e w1 ⟨rfl,hf⟩;go_wp2_with fail;go_ret;exact⟨rfl,hf⟩
  ·have hg:C8 s[0]=false:=by rw[hg];simp[h2]
   rw[hg];go_enter func84,ntmps84;exact qq270
 ·have hg:C8 s[0]=false:=by rw[hg];simp[h1]
  rw[hg];go_enter func84,ntmps84;exact qq270):p:=h
theorem Nf(s:ByteArray)(hs:s.size≤900000)(w:World)(hE:E1 w):
  Calls prog 84 #[.string s] w fun e w'=>e = .returned (.bool (Eg s.data.toList))∧Fr [] w w':=by
 by_cases h0:s.data.toList=[]
 ·have e0:s.toList.isEmpty=true:=by rw[ByteArray.toList_eq,h0];rfl
  have e1:s.toList=[]:=by rw[ByteArray.toList_eq,h0]
  rw[h0];go_enter func84,ntmps84;exact qq270
 ·have kqq178:=@Hz _ @nn381;exact qq178
theorem kind_of{k n:Int}{nl:Nat}{h:Lm}(hh:Cc k n nl=some h):(k=19∧1≤n∧n≤21)∨k=1∨k=6∨k=2∨k=4∨k=3∨k=5∨k=7∨k=14∨k=15∨k=8∨k=20∨k=21∨k=22∨k=9∨k=10∨k=13∨k=11∨k=12∨k=16∨k=17∨k=18:=by
 exact Classical.byContradiction fun hn=>by
  have:Cc k n nl=none:=by
   unfold Cc
   repeat rw[if_neg oM]
  rw[this] at hh;cases hh
theorem none_of{k n:Int}{nl:Nat}(hh:Cc k n nl=none):¬ (k=19∧1≤n∧n≤21)∧k≠1∧k≠6∧k≠2∧k≠4∧k≠3∧k≠5∧k≠7∧k≠14∧k≠15∧k≠8∧k≠20∧k≠21∧k≠22∧k≠9∧k≠10∧k≠13∧k≠11∧k≠12∧k≠16∧k≠17∧k≠18:=by
 refine⟨?_,?_,?_,?_,?_,?_,?_,?_,?_,?_,?_,?_,?_,?_,?_,?_,?_,?_,?_,?_,?_,?_⟩
 ·rintro⟨rfl,h1,h2⟩;simp[Cc,h1,h2] at hh
 all_goals
  rintro rfl;simp[Cc] at hh
theorem Me(k a:Int)(nm:LB)(n:Int)(s:LB)(A5 A6 A7:Option Addr)(nl na ma c5 c6 c7:Nat)(h:Lm)(hh:Cc k n nl=some h)(w:World):
  Calls prog 80 #[.agg #[vI k,vI a,vS nm,vI n,vS s,.slice A5 nl c5,.slice A6 na c6,.slice A7 ma c7]] w fun e w'=>e = .returned h.v∧Fr [] w w':=by
 rcases kind_of hh with⟨rfl,h1,h2⟩| rfl|rfl|rfl|rfl|rfl|rfl|rfl|rfl|rfl|rfl|rfl|rfl|rfl|rfl|rfl|rfl|rfl|rfl|rfl|rfl|rfl
 ·simp[Cc,h1,h2] at hh;subst hh;have cA:=fun w=>Hz (arity_any n h1 h2 w)
  go_enter func80,ntmps80;go_wp2_with fail;refine(cA _).out.mono ?_;rintro e w2 ⟨rfl,rfl⟩;exact qq171
 all_goals
  simp[Cc] at hh;subst hh;go_enter func80,ntmps80;exact qq171
theorem Wy(k a:Int)(nm:LB)(n:Int)(s:LB)(A5 A6 A7:Option Addr)(nl na ma c5 c6 c7:Nat)(hh:Cc k n nl=none)(w:World):
  Calls prog 80 #[.agg #[vI k,vI a,vS nm,vI n,vS s,.slice A5 nl c5,.slice A6 na c6,.slice A7 ma c7]] w fun e w'=>e = .panicked fl∧Fr [] w w':=by
 obtain⟨d19,d1,d6,d2,d4,d3,d5,d7,d14,d15,d8,d20,d21,d22,d9,d10,d13,d11,d12,d16,d17,d18⟩:=none_of hh;have z1:(k==1)=false:=by rw[bN];exact d1
 have z6:(k==6)=false:=by rw[bN];exact d6
 have z2:(k==2)=false:=by rw[bN];exact d2
 have z4:(k==4)=false:=by rw[bN];exact d4
 have z3:(k==3)=false:=by rw[bN];exact d3
 have z5:(k==5)=false:=by rw[bN];exact d5
 have z7:(k==7)=false:=by rw[bN];exact d7
 have z14:(k==14)=false:=by rw[bN];exact d14
 have z15:(k==15)=false:=by rw[bN];exact d15
 have z8:(k==8)=false:=by rw[bN];exact d8
 have z20:(k==20)=false:=by rw[bN];exact d20
 have z21:(k==21)=false:=by rw[bN];exact d21
 have z22:(k==22)=false:=by rw[bN];exact d22
 have z9:(k==9)=false:=by rw[bN];exact d9
 have z10:(k==10)=false:=by rw[bN];exact d10
 have z13:(k==13)=false:=by rw[bN];exact d13
 have z11:(k==11)=false:=by rw[bN];exact d11
 have z12:(k==12)=false:=by rw[bN];exact d12
 have z16:(k==16)=false:=by rw[bN];exact d16
 have z17:(k==17)=false:=by rw[bN];exact d17
 have z18:(k==18)=false:=by rw[bN];exact d18
 by_cases z19:k=19
 ·subst z19;by_cases h1:1≤n
  ·have h2:¬ n≤21:=fun h2=>d19 ⟨rfl,h1,h2⟩
   clear d19 hh;exact qq135
  ·clear d19 hh;exact qq135
 ·have z19:(k==19)=false:=by rw[bN];exact z19
  clear d19 hh d1 d6 d2 d4 d3 d5 d7 d14 d15 d8 d20 d21 d22 d9 d10 d13 d11 d12 d16 d17 d18;exact qq135
def EC(w0:World)(ok:Nat→Prop)(P N:Nat):Prop:=∀ (k a:Int)(nm:LB)(n:Int)(s:LB)(ls:List LB)(args:List Ad)(arms:List (Al×Ad))(A5 A6 A7:Option Addr)(c5 c6 c7:Nat)(rs:List (Nat×Obj))(l:LB)(wr:World),szE (.mk k a nm n s ls args arms)<N→SwE (.mk k a nm n s ls args arms)→
  Ak w0 ok (.mk k a nm n s ls args arms) [vI k,vI a,vS nm,vI n,vS s,.slice A5 ls.length c5,.slice A6 args.length c6,.slice A7 arms.length c7]→WB w0 P rs l wr→l.length+(txE (.mk k a nm n s ls args arms)).length≤70368744177664 →
  Calls prog 37 #[.pointer (some ⟨P,0,none⟩),.agg #[vI k,vI a,vS nm,vI n,vS s,.slice A5 ls.length c5,.slice A6 args.length c6,.slice A7 arms.length c7]] wr (Sd w0 P rs (l++txE (.mk k a nm n s ls args arms)) (Bh (.mk k a nm n s ls args arms)))
def PC(w0:World)(ok:Nat→Prop)(P N:Nat):Prop:=∀ (k a:Int)(nm:LB)(n:Int)(s:LB)(ls:List LB)(args:List Al)(A5 A6:Option Addr)(c5 c6:Nat)(rs:List (Nat×Obj))(l:LB)(wr:World),szP (.mk k a nm n s ls args)<N→SwP (.mk k a nm n s ls args)→
  Bw w0 ok (.mk k a nm n s ls args) [vI k,vI a,vS nm,vI n,vS s,.slice A5 ls.length c5,.slice A6 args.length c6]→WB w0 P rs l wr→l.length+(txP (.mk k a nm n s ls args)).length≤70368744177664 →
  Calls prog 143 #[.pointer (some ⟨P,0,none⟩),.agg #[vI k,vI a,vS nm,vI n,vS s,.slice A5 ls.length c5,.slice A6 args.length c6]] wr (Sd w0 P rs (l++txP (.mk k a nm n s ls args)) (Fb (.mk k a nm n s ls args)))
theorem cellAt{wr w:World}{g j:Nat}{v:Value}(hg:g<wr.heap.size)(hv:wr.cell? ⟨g,j,none⟩=some v)(hf:Fr [] wr w):w.cell? ⟨g,j,none⟩=some v:=(hf.cell (p:=⟨g,j,none⟩) hg (fun x=>by cases x)).trans hv
theorem Tv(w0:World)(P:Nat)(rs:List (Nat×Obj))(l x:LB)(i:Nat)(hi:i≤1099511627776)(hx:x.length≤65536)(hl:l.length≤70368744177664)(wr:World)(hV:E1 w0)(h:WB w0 P rs l wr):
  Calls prog 88 #[.pointer (some ⟨P,0,none⟩),vI i,vS x] wr (Sd w0 P rs (l++((if decide (i=0)=true then [] else [44,32])++(x++[32,61,32]))) (Aw x)):=by
 have cN:=fun w hE=>Hz (Fx ⟨x.toArray⟩ (by simp[ByteArray.size];omega) w hE)
 rw[(show(⟨x.toArray⟩:ByteArray).data.toList=x from rfl)] at cN
 cases hn:Aw x with
 | false =>
  generalize l++((if decide (i=0)=true then [] else [44,32])++(x++[32,61,32]))=M;rw[hn] at cN;go_enter func88,ntmps88;go_wp2_with fail;refine(cN _ (hV.fr h.frame)).out.mono ?_;rintro e w1 ⟨rfl,hf⟩;go_wp2_with fail;refine(must_no _).mono ?_;rintro e w2 ⟨rfl,hf2⟩;go_wp2_with fail
  exact⟨rfl,Sd.gave rfl ((h.frame.trans hf).trans hf2)⟩
 | true =>
  rw[hn] at cN;by_cases h0:i=0
  ·subst h0;rw[show l++((if decide ((0:Nat)=0)=true then ([]:LB)else [44,32])++(x++[32,61,32]))=l++(x++[32,61,32]) by simp];go_enter func88,ntmps88;go_wp2_with fail;refine(cN _ (hV.fr h.frame)).out.mono ?_;rintro e w1 ⟨rfl,hf⟩;replace h:=h.fr hf;go_wp2_with fail;refine(must_yes _).mono ?_;rintro e w2 ⟨rfl,rfl⟩;exact qq215
  ·rw[show l++((if decide (i=0)=true then ([]:LB)else [44,32])++(x++[32,61,32]))=(l++[44,32])++(x++[32,61,32]) by simp[h0]];have q0:(0:Int)<(i:Int):=by omega
   go_enter func88,ntmps88;go_wp2_with fail;refine(cN _ (hV.fr h.frame)).out.mono ?_;rintro e w1 ⟨rfl,hf⟩;replace h:=h.fr hf;go_wp2_with fail;refine(must_yes _).mono ?_;rintro e w2 ⟨rfl,rfl⟩;go_wp2_with fail;refine(h.add1 [44,32] _ sO).mono ?_;rintro e w2 ⟨rfl,h⟩;exact qq215
theorem row_any(w0:World)(ok:Nat→Prop)(P N:Nat)(hE:EC w0 ok P N)(args:List Ad)(A6:Option Addr)(cc6:Nat)(cs:Nat→List Value)(h6:En w0 ok (.slice A6 args.length cc6) args.length 8 cs)(e6:∀ (i:Nat)(x:Ad),args[i]?=some x→Ak w0 ok x (cs i))(hN:Bk args<N)(hs:Kq args)(hal:args.length≤1000)(texts:List LB)(q ct:Nat)(rs:List (Nat×Obj))(l:LB)(wr:World)(hb:WB w0 P rs l wr)(hq:(q,P6 texts) ∈ rs)(hlen:l.length+(Gj texts (Bj args)).length≤70368744177664)(hta:args.length≤texts.length)(htl:texts.length≤1000):
  Calls prog 114 #[.pointer (some ⟨P,0,none⟩),.slice A6 args.length cc6,.slice (some ⟨q,0,none⟩) texts.length ct] wr (Sd w0 P rs (l++Gj texts (Bj args)) (Ax args)):=by
 have IH:=Hz hE;have H6:=Hz h6;have E6:Hid (∀ (i:Nat) (x:Ad),args[i]?=some x→Ak w0 ok x (cs i)):=Hz e6;have HN:=Hz hN;have HS:=Hz hs;have HQ:=Hz hq;rw[← La'] at hlen
 generalize hW:l++Gj texts (Bj args)=M at *
 generalize hO:Ax args=O;have HW:Hid (l++Gj (texts.drop 0) (Bj (args.drop 0))=M):=Hz hW;have HO:Hid (Ax (args.drop 0)=O):=Hz hO;have HL:=Hz hlen;have qa:(args.length:Int)≤1000:=by omega
 have qt:(texts.length:Int)≤1000:=by omega
 clear hE h6 e6 hN hs hq hW hO hlen;go_enter func114,ntmps114;go_wp2_with fail
 go_loopw [10] (fun iv wx=>∃ (i:Nat) (m:LB),iv=vI i∧i≤texts.length∧WB w0 P rs m wx∧Hid (m++Gj (texts.drop i) (Bj (args.drop i))=M)∧Hid (Ax (args.drop i)=O)) (fun iv wx=>texts.length-(intOf iv).toNat)
 case atStart=>exact⟨0,l,rfl,oM,hb,HW,HO⟩
 case round =>
  obtain⟨i,m,rfl,hi,hb,HW,HO⟩:=hrel;by_cases hlt:i<texts.length
  ·obtain⟨t,ht⟩:∃ t,texts[i]?=some t:=⟨texts[i],Lg' hlt⟩
   have t0:=strs_at (hb.at HQ.out) ht;have HT:=Hz ht;clear ht;have q1:(0:Int)≤(i:Int):=by omega
   have q2:(i:Int)<(texts.length:Int):=by omega
   by_cases hla:i<args.length
   ·obtain⟨x,hx⟩:∃ x,args[i]?=some x:=⟨args[i],Lg' hla⟩
    have hw:=HW.out;rw[rowT_in HT.out hx] at hw;have ho:=HO.out;rw[N3 hx] at ho;have c1:=hb.add1 t 1 (by have:=Bb hw HL.out;omega);have HW1:=Hz (Ba hw);have HO1:=Hz ho;have HX:=Hz hx;clear hw ho hx;have q3:(i:Int)<(args.length:Int):=by omega
    go_wp2_with fail;refine c1.mono ?_;rintro e w2 ⟨rfl,hb⟩;clear c1 t0;obtain⟨g,o,rfl,hg,hc⟩:=H6.out.elem hb.frame hla;obtain⟨k2,a2,nm2,n2,s2,ls2,args2,arms2,A52,c52,A62,c62,A72,c72,rfl,hx2,x0,x1,x2,x3,x4,x5,x6,x7⟩:=(E6.out i _ HX.out).told hc;have c2:=IH.out k2 a2 nm2 n2 s2 ls2 args2 arms2 A52 A62 A72 c52 c62 c72 rs _ _ (by have:=Kd HX.out;have:=HN.out;omega) (HS.out.get HX.out) hx2 hb (by have:=Bb HW1.out HL.out;omega);have C2:=Hz c2;clear c2 hx2 hc;go_wp2_with fail;refine C2.out.mono ?_;rintro e w3 (⟨hok,rfl,hb⟩| ⟨hok,rfl,hf⟩)
    ·clear C2 x0 x1 x2 x3 x4 x5 x6 x7;have HO2:=Hz HO1.out;rw[hok,Bool.true_and] at HO2;have HW2:=Hz (Ba HW1.out);clear hok;go_wp2_with fail
     go_roundw
     case rel=>exact⟨i+1,_,sM,oM,hb,HW2,HO2⟩
     case measure=>simp[intOf];omega
    ·go_wp2_with fail;exact⟨rfl,Sd.gave (by rw[← HO1.out,hok];rfl) hf⟩
   ·have hw:=HW.out;rw[rowT_past HT.out oM] at hw;have ho:=HO.out;rw[Lb oM] at ho;have c1:=hb.add1 t 1 (by have:=Bb hw HL.out;omega);have HW1:=Hz (Ba hw);have HO1:Hid (Ax (args.drop (i+1))=O):=Hz (by rw[Lb oM];exact ho);clear hw ho;have q3:(args.length:Int)≤(i:Int):=by omega
    go_wp2_with fail;refine c1.mono ?_;rintro e w2 ⟨rfl,hb⟩;clear c1 t0;go_wp2_with fail
    go_roundw
    case rel=>exact⟨i+1,_,sM,oM,hb,HW1,HO1⟩
    case measure=>simp[intOf];omega
  ·have ei:i=texts.length:=by omega
   subst ei;have hw:=HW.out;rw[rowT_end (Nr' _)] at hw;have ho:=HO.out;rw[Lb oM] at ho;go_wp2_with fail
   go_end0
   exact Sd.done ho.symm (Dc hw) hb
end
theorem Ko{α:Type}:∀ {l:List α},l.length=1→∃ a,l=[a]
 | [a],_=>⟨a,rfl⟩
theorem Kk{α:Type}:∀ {l:List α},l.length=2→∃ a b,l=[a,b]
 | [a,b],_=>⟨a,b,rfl⟩
theorem trio_of{α:Type}:∀ {l:List α},l.length=3→∃ a b c,l=[a,b,c]
 | [a,b,c],_=>⟨a,b,c,rfl⟩
section
attribute [local go_sem ↓] Go.wp_at_zero Go.wp_at_succ
theorem Hk{α:Type}{l:List α}(h:¬ l=[]):((l.length:Int)==0)=false:=by
 cases l with
 | nil=>exact absurd rfl h
 | cons x l=>simp only[Lc',bN];omega
theorem Xe{k:Int}{nl:Nat}{h:Lm}(hh:Ez k nl=some h):k=1∨k=2∨k=3∨k=4∨k=5∨k=6∨k=7∨k=8∨k=9 :=
 Classical.byContradiction fun hn=>by
  have:Ez k nl=none:=by
   unfold Ez
   repeat rw[if_neg oM]
  rw[this] at hh;cases hh
theorem pat_none(w0:World)(P:Nat)(k a:Int)(nm:LB)(n:Int)(s:LB)(ls:List LB)(args:List Al)(A5 A6:Option Addr)(c5 c6:Nat)(rs:List (Nat×Obj))(l M:LB)(wr:World)(hh:Ez k ls.length=none)(hb:WB w0 P rs l wr):
  Calls prog 143 #[.pointer (some ⟨P,0,none⟩),.agg #[vI k,vI a,vS nm,vI n,vS s,.slice A5 ls.length c5,.slice A6 args.length c6]] wr (Sd w0 P rs M false):=by
 have hd:k≠1∧k≠2∧k≠3∧k≠4∧k≠5∧k≠6∧k≠7∧k≠8∧k≠9:=by refine⟨?_,?_,?_,?_,?_,?_,?_,?_,?_⟩<;> rintro rfl <;> simp[Ez] at hh
 obtain⟨d1,d2,d3,d4,d5,d6,d7,d8,d9⟩:=hd;have z1:(k==1)=false:=by rw[bN];exact d1
 have z2:(k==2)=false:=by rw[bN];exact d2
 have z3:(k==3)=false:=by rw[bN];exact d3
 have z4:(k==4)=false:=by rw[bN];exact d4
 have z5:(k==5)=false:=by rw[bN];exact d5
 have z6:(k==6)=false:=by rw[bN];exact d6
 have z7:(k==7)=false:=by rw[bN];exact d7
 have z8:(k==8)=false:=by rw[bN];exact d8
 have z9:(k==9)=false:=by rw[bN];exact d9
 clear hh d1 d2 d3 d4 d5 d6 d7 d8 d9;go_enter func143,ntmps143;go_wp2_with fail;exact qq158
theorem pat_wrong(w0:World)(P:Nat)(k a:Int)(nm:LB)(n:Int)(s:LB)(ls:List LB)(args:List Al)(A5 A6:Option Addr)(c5 c6:Nat)(rs:List (Nat×Obj))(l M:LB)(wr:World)(h:Lm)(hh:Ez k ls.length=some h)(hr:Ah h nm n s ls.length args.length 0=false)(hb:WB w0 P rs l wr):
  Calls prog 143 #[.pointer (some ⟨P,0,none⟩),.agg #[vI k,vI a,vS nm,vI n,vS s,.slice A5 ls.length c5,.slice A6 args.length c6]] wr (Sd w0 P rs M false):=by
 rcases Xe hh with rfl|rfl|rfl|rfl|rfl|rfl|rfl|rfl|rfl
 all_goals(simp[Ez] at hh;subst hh)
 by_cases t:nm=[]
 case' neg=>have e0:(nm==[])=false:=by rw[bN];exact t
 rotate_left
 subst t;by_cases t:n=0
 case' neg=>have e0:(n==0)=false:=by rw[bN];exact t
 rotate_left
 subst t
 by_cases t:s=[]
 case' neg=>have e0:(s==[])=false:=by rw[bN];exact t
 rotate_left
 subst t
 by_cases t:ls=[]
 case' neg=>have e0:((ls.length:Int)==0)=false:=Hk t
 rotate_left
 subst t;have e0:((args.length:Int)==0)=false:=Hk (fun t=>by subst t;simp[Ah] at hr)
 rotate_left
 by_cases t:n=0
 case' neg=>have e0:(n==0)=false:=by rw[bN];exact t
 rotate_left
 subst t
 by_cases t:s=[]
 case' neg=>have e0:(s==[])=false:=by rw[bN];exact t
 rotate_left
 subst t
 by_cases t:ls=[]
 case' neg=>have e0:((ls.length:Int)==0)=false:=Hk t
 rotate_left
 subst t;have e0:((args.length:Int)==0)=false:=Hk (fun t=>by subst t;simp[Ah] at hr)
 rotate_left
 by_cases t:nm=[]
 case' neg=>have e0:(nm==[])=false:=by rw[bN];exact t
 rotate_left
 subst t
 by_cases t:s=[]
 case' neg=>have e0:(s==[])=false:=by rw[bN];exact t
 rotate_left
 subst t
 by_cases t:ls=[]
 case' neg=>have e0:((ls.length:Int)==0)=false:=Hk t
 rotate_left
 subst t;have e0:((args.length:Int)==0)=false:=Hk (fun t=>by subst t;simp[Ah] at hr)
 rotate_left
 by_cases t:nm=[]
 case' neg=>have e0:(nm==[])=false:=by rw[bN];exact t
 rotate_left
 subst t;by_cases t:n=0
 case' neg=>have e0:(n==0)=false:=by rw[bN];exact t
 rotate_left
 subst t
 by_cases t:ls=[]
 case' neg=>have e0:((ls.length:Int)==0)=false:=Hk t
 rotate_left
 subst t;have e0:((args.length:Int)==0)=false:=Hk (fun t=>by subst t;simp[Ah] at hr)
 rotate_left
 by_cases t:nm=[]
 case' neg=>have e0:(nm==[])=false:=by rw[bN];exact t
 rotate_left
 subst t
 by_cases t:s=[]
 case' neg=>have e0:(s==[])=false:=by rw[bN];exact t
 rotate_left
 subst t
 by_cases t:ls=[]
 case' neg=>have e0:((ls.length:Int)==0)=false:=Hk t
 rotate_left
 subst t;have e0:((args.length:Int)==0)=false:=Hk (fun t=>by subst t;simp[Ah] at hr)
 rotate_left
 by_cases t:nm=[]
 case' neg=>have e0:(nm==[])=false:=by rw[bN];exact t
 rotate_left
 subst t;by_cases t:n=0
 case' neg=>have e0:(n==0)=false:=by rw[bN];exact t
 rotate_left
 subst t
 by_cases t:s=[]
 case' neg=>have e0:(s==[])=false:=by rw[bN];exact t
 rotate_left
 subst t
 by_cases t:ls=[]
 case' neg=>have e0:((ls.length:Int)==0)=false:=Hk t
 rotate_left
 subst t;have e0:((args.length:Int)==0)=false:=Hk (fun t=>by subst t;simp[Ah] at hr)
 rotate_left
 by_cases t:n=0
 case' neg=>have e0:(n==0)=false:=by rw[bN];exact t
 rotate_left
 subst t
 by_cases t:s=[]
 case' neg=>have e0:(s==[])=false:=by rw[bN];exact t
 rotate_left
 subst t
 by_cases t:ls=[]
 case' neg=>have e0:((ls.length:Int)==0)=false:=Hk t
 rotate_left
 subst t;have e0:((args.length:Int)==0)=false:=Hk (fun t=>by subst t;simp[Ah] at hr)
 rotate_left
 by_cases t:n=0
 case' neg=>have e0:(n==0)=false:=by rw[bN];exact t
 rotate_left
 subst t
 by_cases t:s=[]
 case' neg=>have e0:(s==[])=false:=by rw[bN];exact t
 rotate_left
 subst t
 by_cases t:ls=[]
 case' neg=>have e0:((ls.length:Int)==0)=false:=Hk t
 rotate_left
 subst t;have e0:((args.length:Int)==1)=false:=by rw[bN];intro t;exact absurd hr (by simp[Ah];omega)
 rotate_left
 by_cases t:nm=[]
 case' neg=>have e0:(nm==[])=false:=by rw[bN];exact t
 rotate_left
 subst t;by_cases t:n=0
 case' neg=>have e0:(n==0)=false:=by rw[bN];exact t
 rotate_left
 subst t
 by_cases t:s=[]
 case' neg=>have e0:(s==[])=false:=by rw[bN];exact t
 rotate_left
 subst t;have e0:((args.length:Int)==(ls.length:Int))=false:=by rw[bN];intro t;exact absurd hr (by simp[Ah];omega)
 rotate_left
 all_goals
  clear hr;go_enter func143,ntmps143;go_wp2_with fail
  try(refine(must_yes _).mono ?_;rintro e w9 ⟨rfl,rfl⟩;go_wp2_with fail)
  try(go_region;go_wp2_with fail)
  exact qq158
theorem nn115(h:p:=by
 go_wp2_with fail;clear l0 l1 l2 l3 l4 l5 l6;refine(hb.add1 [123] _ (by have:=Bb HW.out HL.out;omega)).mono ?_;rintro e w2 ⟨rfl,hb⟩;have HW0:=Hz (Ba HW.out);obtain⟨⟨l0,l1,l2,l3,l4,l5,l6⟩,_⟩:=Ao (hb.at (Lm' ..));go_wp2_with fail;clear l0 l1 l2 l3 l4 l5 l6;clear HW
 go_loopw [185] (fun iv wx=>∃ (i:Nat) (m:LB),iv=vI i∧i≤args.length∧WB w0 P ((T,.cells #[vI 9,vI a,vE,vI 0,vE,.slice A5 ls.length c5,.slice A6 args.length c6] 123)::rs) m wx∧Hid (m++(Jj (decide (i=0)) (ls.drop i) (Ih (args.drop i))++[125])=M)∧Hid ((((ls.drop i).all Aw)&&Dt (args.drop i))=O)) (fun iv wx=>args.length-(intOf iv).toNat)
 case atStart=>exact⟨0,_,rfl,oM,hb,HW0,HO⟩
 case round =>
  obtain⟨i,m,rfl,hi,hb,HW,HO⟩:=hrel;clear HW0;by_cases hlt:i<args.length
  ·obtain⟨x,hx⟩:∃ x,args[i]?=some x:=⟨args[i],Lg' hlt⟩
   obtain⟨y,hy⟩:∃ y,ls[i]?=some y:=⟨ls[i]'(by rw[← HT.out];exact hlt),Lg' _⟩
   have hw:m++(((if decide (i=0)=true then [] else [44,32])++(y++[32,61,32]))++(txP x++(Jj (decide (i+1=0)) (ls.drop (i+1)) (Ih (args.drop (i+1)))++[125])))=M:=by rw[← HW.out,rowP_at hy hx];simp[Ls']
   have ho:((Aw y&&((ls.drop (i+1)).all Aw))&&(Fb x&&Dt (args.drop (i+1))))=O:=by rw[← HO.out,allB_at hy,mayPs_drop hx]
   have HX:=Hz hx;have HW1:=Hz (Ba hw);have HO1:=Hz ho;have hyl:=HS4.out y (List.mem_of_getElem? hy);obtain⟨g5,o5,rfl,hg5,hc5⟩:=H5.out.elem hb.frame (i:=i) (by rw[← HT.out];exact hlt);have y0:=hc5 0 _ (by rw[E5.out i y hy];rfl);simp only[Nat.mul_one,Nat.add_zero] at y0;obtain⟨g,o,rfl,hg,hc⟩:=H6.out.elem hb.frame hlt;obtain⟨k2,a2,nm2,n2,s2,ls2,args2,A52,c52,A62,c62,rfl,hx2,x0,x1,x2,x3,x4,x5,x6⟩:=(E6.out i _ hx).told hc;have kqq294:=@Hz _ @nn551;exact qq294
  ·have ei:i=args.length:=by omega
   subst ei;have hw:=HW.out;rw[row_end (by rw[← HT.out];exact Nr' _)] at hw;have ho:=HO.out;rw[List.drop_eq_nil_of_le (by rw[← HT.out];exact Nr' _:ls.length≤args.length),mayPs_end (Nr' _)] at ho;exact qq155):p:=h
theorem nn116(h:p:=by
 have kqq160:=@Hz _ @nn371;exact qq160):p:=h
theorem nn118(h:p:=by
 go_wp2_with fail
 cases hn:(n==0||n==1)with
 | false =>
  have cT:=Hz (fun w=>Yz n hn w);rw[hn] at HP;clear hn;refine(cT.out _).mono ?_;rintro e w6 ⟨rfl,hf⟩;go_wp2_with fail
  exact⟨rfl,Sd.gave HP.out.symm (hb.frame.trans hf)⟩
 | true =>
  have cT:=Hz (fun w=>Uq n hn w);rw[hn] at HP;clear hn;refine(cT.out _).mono ?_;rintro e w5 ⟨rfl,rfl⟩;exact qq264):p:=h
theorem nn119(h:p:=by
 go_wp2_with fail;refine(cQ _).out.mono ?_;rintro e w2 ⟨rfl,hf⟩;replace hb:=hb.fr hf;clear hf l0 l1 l2 l3 l4 l5 l6;exact qq263):p:=h
theorem nn120(h:p:=by
 have kqq160:=@Hz _ @nn370;exact qq160):p:=h
theorem nn121(h:p:=by
 have kqq160:=@Hz _ @nn369;exact qq160):p:=h
theorem nn122(h:p:=by
 exact qq262):p:=h
theorem nn123(h:p:=by
 go_wp2_with fail;refine(hb.add1 [95] _ (by have:=Bb HW.out HL.out;omega)).mono ?_;rintro e w5 ⟨rfl,hb⟩;exact qq117):p:=h
theorem nn369(h:p:=by
 cases hn:Eg nm with
 | false =>
  exact qq146
 | true =>
  exact qq101):p:=h
theorem nn370(h:p:=by
 cases hn:Aw nm with
 | false =>
  exact qq112
 | true =>
 cases h9:nm==[95] with
 | true =>
  have h9':nm=[95]:=by simpa using h9
  go_wp2_with fail;refine(must_no _).mono ?_;rintro e w6 ⟨rfl,hf⟩;go_wp2_with fail
  exact⟨rfl,Sd.gave (by rw[← HP.out,h9];simp) (hb.frame.trans hf)⟩
 | false =>
  have kqq311:=@Hz _ @nn567;exact qq311):p:=h
theorem nn371(h:p:=by
 cases hn:Eg nm with
 | false =>
  exact qq112
 | true =>
 go_wp2_with fail;refine(must_yes _).mono ?_;rintro e w6 ⟨rfl,rfl⟩;go_wp2_with fail;refine(hb.add3 [40,35] nm [32] _ (by have:=Bb HW.out HL.out;omega)).mono ?_;rintro e w5 ⟨rfl,hb⟩;have HW1:=Hz (Ba HW.out);clear l0 l1 l2 l3 l4 l5 l6;obtain⟨⟨l0,l1,l2,l3,l4,l5,l6⟩,_⟩:=Ao (hb.at (Lm' ..));obtain⟨g,o,hA,hg,hc⟩:=H6.out.elem hb.frame (i:=0) sM;cases hA;simp only[Nat.zero_mul,Nat.add_zero] at hc;obtain⟨k2,a2,nm2,n2,s2,ls2,args2,A52,c52,A62,c62,rfl,hx2,x0,x1,x2,x3,x4,x5,x6⟩:=E6.out.told hc;have C2:=Hz (IH.out k2 a2 nm2 n2 s2 ls2 args2 A52 A62 c52 c62 _ _ _ (by have:=HN.out;omega) HS.out hx2 hb (by have:=Bb HW1.out HL.out;omega));clear hc hx2;go_wp2_with fail;refine C2.out.mono ?_;rintro e w3 (⟨hok,rfl,hb⟩| ⟨hok,rfl,hf⟩)
 ·have HW2:=Hz (Ba HW1.out);go_wp2_with fail;refine(hb.add1 [41] _ (by have:=Bb HW2.out HL.out;omega)).mono ?_;rintro e w5 ⟨rfl,hb⟩;exact qq343
 ·go_wp2_with fail;exact⟨rfl,Sd.gave (by rw[← HP.out,hn,hok];rfl) hf⟩):p:=h
theorem nn551(h:p:=by
 obtain⟨⟨l0,l1,l2,l3,l4,l5,l6⟩,_⟩:=Ao (hb.at (Lm' ..));have hTw:=Aa (hb.at (Lm' ..));replace hb:=hb.new (.cells #[vI k2,vI a2,vS nm2,vI n2,vS s2,.slice A52 ls2.length c52,.slice A62 args2.length c62] 123);have cL:=fun rz W hW=>Hz (Tv w0 P rz m y i oM hyl hml W HV.out hW)
 go_wp2_with fail
 generalize wr.heap.size=Tx at *
 refine(cL _ _ hb).out.mono ?_;rintro e w3 (⟨hok1,rfl,hb⟩| ⟨hok1,rfl,hf⟩)
 ·clear l0 l1 l2 l3 l4 l5 l6;clear x0 x1 x2 x3 x4 x5 x6 y0 cL;obtain⟨⟨l0,l1,l2,l3,l4,l5,l6⟩,_⟩:=Ao (hb.at (Lm' ..));have C2:=Hz (IH.out k2 a2 nm2 n2 s2 ls2 args2 A52 A62 c52 c62 _ _ _ (by have:=O3 HX.out;have:=HN.out;omega) (HS.out.get HX.out) hx2 hb (by have:=Bb HW1.out HL.out;omega));clear hx2;go_wp2_with fail;refine C2.out.mono ?_;rintro e w4 (⟨hok2,rfl,hb⟩| ⟨hok2,rfl,hf⟩)
  ·have HW2:=Hz (Ba HW1.out);have HO2:=Hz HO1.out;rw[hok1,hok2,Bool.true_and,Bool.true_and] at HO2;clear hok1 hok2 C2 HW1 HO1 HW HO l0 l1 l2 l3 l4 l5 l6;exact qq169
  ·go_wp2_with fail;exact⟨rfl,Sd.gave (by rw[← HO1.out,hok2];simp) hf⟩
 ·go_wp2_with fail;exact⟨rfl,Sd.gave (by rw[← HO1.out,hok1];simp) hf⟩):p:=h
theorem nn567(h:p:=by
 exact Sd.done (by rw[← HP.out,hn,h9];rfl) (Dc (Ba HW.out)) hb.drop):p:=h
theorem wpat_step(w0:World)(ok:Nat→Prop)(P N:Nat)(hV:E1 w0)(hB:N≤1099511627775)(ih:PC w0 ok P N):PC w0 ok P (N+1):=by
 intro k a nm n s ls args A5 A6 c5 c6 rs l wr hN hs hx hb hl;rw[← La'] at hl
 cases hh:Ez k ls.length with
 | none =>
  rw[mayP_none hh]
  exact pat_none w0 P k a nm n s ls args A5 A6 c5 c6 rs l _ wr hh hb
 | some h =>
 cases hr:Ah h nm n s ls.length args.length 0 with
 | false =>
  rw[mayP_wrong hh hr]
  exact pat_wrong w0 P k a nm n s ls args A5 A6 c5 c6 rs l _ wr h hh hr hb
 | true =>
 have HO:=Hz (mayP_right (a:=a) (nm:=nm) (s:=s) (pats:=args) hh hr).symm
 obtain⟨M,hM⟩:∃ M,l++txP (.mk k a nm n s ls args)=M:=⟨_,rfl⟩
 obtain⟨O,hO⟩:∃ O,Fb (.mk k a nm n s ls args)=O:=⟨_,rfl⟩
 rw[hM] at hl ⊢;rw[hO] at HO ⊢;have HM:=Hz hM;have HL:=Hz hl;have HV:=Hz hV;have IH:=Hz ih;obtain⟨⟨hs1,hs2,hs3,hs4⟩,hs5⟩:=hs;clear hM hO hl hV ih;by_cases t1:k=1
 ·subst t1;simp[Ez] at hh;subst hh;obtain⟨rfl,rfl,rfl,rfl,rfl⟩:nm=[]∧n=0∧s=[]∧ls=[]∧args=[]:=by simpa [Ah,and_assoc] using hr
  clear hr;have HW:Hid (l++([95]++[])=M):=Hz (by rw[← HM.out];simp[txP,Ow,Ih]);have HP:Hid (true=O):=Hz (by rw[← HO.out];simp[E3,Dt]);have hb0:=hb.new (.cells #[vI 1,vI a,vE,vI 0,vE,.slice A5 0 c5,.slice A6 0 c6] 123);go_enter func143,ntmps143;go_wp2_with fail;refine(must_yes _).mono ?_;rintro e w9 ⟨rfl,rfl⟩;have kqq36:=@Hz _ @nn123;exact qq36
 by_cases t6:k=6
 ·subst t6;simp[Ez] at hh;subst hh;obtain⟨rfl,rfl,rfl,rfl,rfl⟩:nm=[]∧n=0∧s=[]∧ls=[]∧args=[]:=by simpa [Ah,and_assoc] using hr
  clear hr;have HW:Hid (l++([40,41]++[])=M):=Hz (by rw[← HM.out];simp[txP,Ow,Ih]);have HP:Hid (true=O):=Hz (by rw[← HO.out];simp[E3,Dt]);have hb0:=hb.new (.cells #[vI 6,vI a,vE,vI 0,vE,.slice A5 0 c5,.slice A6 0 c6] 123);go_enter func143,ntmps143;go_wp2_with fail;refine(must_yes _).mono ?_;rintro e w9 ⟨rfl,rfl⟩;have kqq36:=@Hz _ @nn122;exact qq36
 by_cases t7:k=7
 ·subst t7;simp[Ez] at hh;subst hh;obtain⟨rfl,rfl,rfl,rfl⟩:n=0∧s=[]∧ls=[]∧args=[]:=by simpa [Ah,and_assoc] using hr
  clear hr;have HW:Hid (l++(nm++[])=M):=Hz (by rw[← HM.out];simp[txP,Ow,Ih]);have HP:Hid (Eg nm=O):=Hz (by rw[← HO.out];simp[E3,Dt]);have cN:=fun w hE=>Hz (Nf ⟨nm.toArray⟩ (by simp[ByteArray.size];omega) w hE)
  rw[(show(⟨nm.toArray⟩:ByteArray).data.toList=nm from rfl)] at cN;have hb0:=hb.new (.cells #[vI 7,vI a,vS nm,vI 0,vE,.slice A5 0 c5,.slice A6 0 c6] 123);go_enter func143,ntmps143;have kqq36:=@Hz _ @nn121;exact qq36
 by_cases t2:k=2
 ·subst t2;simp[Ez] at hh;subst hh;obtain⟨rfl,rfl,rfl,rfl⟩:n=0∧s=[]∧ls=[]∧args=[]:=by simpa [Ah,and_assoc] using hr
  clear hr;have HW:Hid (l++(nm++[])=M):=Hz (by rw[← HM.out];simp[txP,Ow,Ih]);have HP:Hid ((Aw nm && !(nm==[95]))=O):=Hz (by rw[← HO.out];simp[E3,Dt]);have cN:=fun w hE=>Hz (Fx ⟨nm.toArray⟩ (by simp[ByteArray.size];omega) w hE)
  rw[(show(⟨nm.toArray⟩:ByteArray).data.toList=nm from rfl)] at cN;have hb0:=hb.new (.cells #[vI 2,vI a,vS nm,vI 0,vE,.slice A5 0 c5,.slice A6 0 c6] 123);go_enter func143,ntmps143;have kqq36:=@Hz _ @nn120;exact qq36
 by_cases t4:k=4
 ·subst t4;simp[Ez] at hh;subst hh;obtain⟨rfl,rfl,rfl,rfl⟩:nm=[]∧n=0∧ls=[]∧args=[]:=by simpa [Ah,and_assoc] using hr
  clear hr;have HW:Hid (l++(Dr s++[])=M):=Hz (by rw[← HM.out];simp[txP,Ow,Ih]);have HP:Hid (true=O):=Hz (by rw[← HO.out];simp[E3,Dt]);have cQ:=fun w=>Hz (O9 ⟨s.toArray⟩ (by simp[ByteArray.size];omega) w)
  rw[(show(⟨s.toArray⟩:ByteArray).data.toList=s from rfl)] at cQ;have hb0:=hb.new (.cells #[vI 4,vI a,vE,vI 0,vS s,.slice A5 0 c5,.slice A6 0 c6] 123);go_enter func143,ntmps143;have kqq36:=@Hz _ @nn119;exact qq36
 by_cases t5:k=5
 ·subst t5;simp[Ez] at hh;subst hh;obtain⟨rfl,rfl,rfl,rfl⟩:nm=[]∧s=[]∧ls=[]∧args=[]:=by simpa [Ah,and_assoc] using hr
  clear hr;have HW:Hid (l++(Ir n++[])=M):=Hz (by rw[← HM.out];simp[txP,Ow,Ih]);have HP:Hid ((n==0||n==1)=O):=Hz (by rw[← HO.out];simp[E3,Dt]);have hb0:=hb.new (.cells #[vI 5,vI a,vE,vI n,vE,.slice A5 0 c5,.slice A6 0 c6] 123);go_enter func143,ntmps143;have kqq36:=@Hz _ @nn118;exact qq36
 by_cases t3:k=3
 ·subst t3;simp[Ez] at hh;subst hh;obtain⟨rfl,rfl,rfl,rfl⟩:nm=[]∧s=[]∧ls=[]∧args=[]:=by simpa [Ah,and_assoc] using hr
  clear hr;have HW:Hid (l++(Lib.itoa n++[])=M):=Hz (by rw[← HM.out];simp[txP,Ow,Ih]);have HP:Hid ((decide (-Ff≤n)&&decide (n≤Ff))=O):=Hz (by rw[← HO.out];simp[E3,Dt]);have cT:=fun w hE=>Hz (We n hs2.1 hs2.2 w hE)
  clear hs2;have hc:(-Ff≤n∧n≤Ff∧O=true)∨(-Ff≤n∧decide (n≤4611686018427387903)=false∧O=false)∨(¬ -Ff≤n∧O=false):=by rw[← HP.out];by_cases h3:-Ff≤n <;> by_cases h4:n≤Ff <;> simp[h3,h4] <;> unfold Ff at h4 <;> omega
  unfold Ff at hc;clear HP HO
  rcases hc with⟨h3,h4,rfl⟩| ⟨h3,h4,rfl⟩| ⟨h3,rfl⟩
  all_goals
   have hb0:=hb.new (.cells #[vI 3,vI a,vE,vI n,vE,.slice A5 0 c5,.slice A6 0 c6] 123);go_enter func143,ntmps143;go_wp2_with fail;refine(must_yes _).mono ?_;rintro e w1 ⟨rfl,hw⟩;replace hb:=hb0.fr (w':=w1) (by rw[hw];((repeat first|exact Fr.refl _ _|refine Fr.alloc ?_ _|refine Fr.drew ?_|refine Fr.setCell ?_ (.inr sM) _)));clear hb0 hw
   generalize wr.heap.size=T at *
   obtain⟨⟨l0,l1,l2,l3,l4,l5,l6⟩,_⟩:=Ao (hb.at (Lm' ..));go_wp2_with fail
  ·refine(must_yes _).mono ?_;rintro e w6 ⟨rfl,rfl⟩;go_wp2_with fail;refine(cT _ (HV.out.fr hb.frame).env).out.mono ?_;rintro e w2 ⟨rfl,hf⟩;replace hb:=hb.fr hf;clear hf l0 l1 l2 l3 l4 l5 l6;exact qq179
  all_goals
   exact qq163
 by_cases t8:k=8
 ·subst t8;simp[Ez] at hh;subst hh;obtain⟨rfl,rfl,rfl,t⟩:n=0∧s=[]∧ls=[]∧args.length=1:=by simpa [Ah,and_assoc] using hr
  clear hr;obtain⟨x,rfl⟩:=Ko t;have HW:Hid (l++(([40,35]++(nm++[32]))++(txP x++([41]++[])))=M):=Hz (by rw[← HM.out];simp[txP,Ow,Ih]);have HP:Hid ((Eg nm&&Fb x)=O):=Hz (by rw[← HO.out];simp[E3,Dt]);rw[show szP _=1+szP x by simp[szP,E2]] at hN;have HN:=Hz hN;clear hN;have HS:=Hz hs5.1;clear hs5
  cases hx with
  | mk d5 d6 h5 e5 h6 e6 =>
  have H6:=Hz h6;have E6:=Hz (e6 0 x rfl);clear h5 e5 h6 e6;have cN:=fun w hE=>Hz (Nf ⟨nm.toArray⟩ (by simp[ByteArray.size];omega) w hE)
  rw[(show(⟨nm.toArray⟩:ByteArray).data.toList=nm from rfl)] at cN;have hb0:=hb.new (.cells #[vI 8,vI a,vS nm,vI 0,vE,.slice A5 0 c5,.slice A6 1 c6] 123);go_enter func143,ntmps143;have kqq36:=@Hz _ @nn116;exact qq36
 by_cases t9:k=9
 ·subst t9;simp[Ez] at hh;subst hh;obtain⟨rfl,rfl,rfl,t⟩:nm=[]∧n=0∧s=[]∧args.length=ls.length:=by simpa [Ah,and_assoc] using hr
  clear hr;have HT:=Hz t;have HO2:Hid (((ls.drop 0).all Aw&&Dt (args.drop 0))=O):=Hz (by rw[← HO.out];simp[E3]);replace HO:=HO2;clear HO2;have HW:Hid (l++([123]++(Jj (decide (0=0)) (ls.drop 0) (Ih (args.drop 0))++[125]))=M):=Hz (by rw[← HM.out];simp[txP,Ow]);rw[show szP _=1+E2 args by simp[szP,E2]] at hN;have HN:=Hz hN;clear hN;have HS:=Hz hs5;have HS4:=Hz hs4;have hal:args.length≤1099511627776:=by have:=Vx args;have:=HN.out;omega
  cases hx with
  | mk d5 d6 h5 e5 h6 e6 =>
  have H5:=Hz h5;have H6:=Hz h6;have E5:Hid (∀ (i:Nat) (x:LB),ls[i]?=some x→d5 i=Gk x):=Hz e5;have E6:Hid (∀ (i:Nat) (x:Al),args[i]?=some x→Bw w0 ok x (d6 i)):=Hz e6;have q9:(args.length:Int)=(ls.length:Int):=by rw[t]
  have q8:(args.length:Int)≤1099511627776:=by omega
  clear h5 e5 h6 e6 hs5 hs4 t;have hb0:=hb.new (.cells #[vI 9,vI a,vE,vI 0,vE,.slice A5 ls.length c5,.slice A6 args.length c6] 123);go_enter func143,ntmps143;go_wp2_with fail
  go_region
  have kqq36:=@Hz _ @nn115;exact qq36
 rcases Xe hh with h|h|h|h|h|h|h|h|h <;> first|exact absurd h t1|exact absurd h t2|exact absurd h t3|exact absurd h t4|exact absurd h t5|exact absurd h t6|exact absurd h t7|exact absurd h t8|exact absurd h t9
theorem pat_all(w0:World)(ok:Nat→Prop)(P:Nat)(hV:E1 w0):∀ N,N≤1099511627776→PC w0 ok P N
 | 0,_=>fun _ _ _ _ _ _ _ _ _ _ _ _ _ _ h=>absurd h (Nat.not_lt_zero _)
 | N+1,hN=>wpat_step w0 ok P N hV oM (pat_all w0 ok P hV N oM)
theorem Sd.drop{w0:World}{P:Nat}{x:Nat×Obj}{rs:List (Nat×Obj)}{m:LB}{ok:Bool}{e:Ending}{w:World}(h:Sd w0 P (x::rs) m ok e w):Sd w0 P rs m ok e w:=by
 rcases h with⟨a,b,c⟩| h
 ·exact .inl ⟨a,b,c.drop⟩
 ·exact .inr h
theorem WB.row{w0:World}{ok:Nat→Prop}{P N:Nat}(hE:EC w0 ok P N){args:List Ad}{A6:Option Addr}{cc6:Nat}{cs:Nat→List Value}(h6:En w0 ok (.slice A6 args.length cc6) args.length 8 cs)(e6:∀ (i:Nat)(x:Ad),args[i]?=some x→Ak w0 ok x (cs i))(hN:Bk args<N)(hs:Kq args)(hal:args.length≤1000){rs:List (Nat×Obj)}{l:LB}{wr:World}(h:WB w0 P rs l wr)(texts:List LB)(ct:Nat){M:LB}(hM:l++Gj texts (Bj args)=M)(hlen:M.length≤70368744177664)(hta:args.length≤texts.length)(htl:texts.length≤1000):
  Calls prog 114 #[.pointer (some ⟨P,0,none⟩),.slice A6 args.length cc6,.slice (some ⟨wr.heap.size,0,none⟩) texts.length ct] (wr.alloc (P6 texts)) (Sd w0 P rs M (Ax args)):=by
 subst hM;exact(row_any w0 ok P N hE args A6 cc6 cs h6 e6 hN hs hal texts wr.heap.size ct _ l _ (h.new (P6 texts)) (Lm' ..) (by rw[← La'];exact hlen) hta htl).mono fun _ _ h=>h.drop
theorem WB.add1q{w0 wr:World}{P:Nat}{rs:List (Nat×Obj)}{l:LB}{q:Nat}(hq:wr.heap.size=q)(h:WB w0 P rs l wr)(x:LB)(c:Nat)(hlen:l.length+x.length≤140737488355328):
  Calls prog 83 #[.pointer (some ⟨P,0,none⟩),.slice (some ⟨q,0,none⟩) 1 c] (wr.alloc (.cells #[vS x] 9)) fun e w'=>e = .returned (.tuple #[])∧WB w0 P rs (l++x) w':=by
 subst hq;exact h.add1 x c hlen
theorem Lp{x:World}{B:Nat}{T:TypeId}{a0 a1 a2 a3 a4 a5 a6 a7 a8 a9 a10 a11 a12 a13 a14:Value}(h:x.heap[B]?=some (.cells #[a0,a1,a2,a3,a4,a5,a6,a7,a8,a9,a10,a11,a12,a13,a14] T (0,0))):x.cell? ⟨B,0,none⟩=some a0∧x.cell? ⟨B,1,none⟩=some a1∧x.cell? ⟨B,2,none⟩=some a2∧x.cell? ⟨B,3,none⟩=some a3∧x.cell? ⟨B,4,none⟩=some a4∧x.cell? ⟨B,5,none⟩=some a5∧x.cell? ⟨B,6,none⟩=some a6∧x.cell? ⟨B,7,none⟩=some a7∧x.cell? ⟨B,8,none⟩=some a8∧x.cell? ⟨B,9,none⟩=some a9∧x.cell? ⟨B,10,none⟩=some a10∧x.cell? ⟨B,11,none⟩=some a11∧x.cell? ⟨B,12,none⟩=some a12∧x.cell? ⟨B,13,none⟩=some a13∧x.cell? ⟨B,14,none⟩=some a14 :=
 ⟨Ab h 0,Ab h 1,Ab h 2,Ab h 3,Ab h 4,Ab h 5,Ab h 6,Ab h 7,Ab h 8,Ab h 9,Ab h 10,Ab h 11,Ab h 12,Ab h 13,Ab h 14⟩
theorem Wg{w0 wr:World}{ok:Nat→Prop}{p:Al}{x:Ad}{cp ce:List Value}(hp:Bw w0 ok p cp)(hx:Ak w0 ok x ce){g o:Nat}(hc:∀ (j:Nat)(v:Value),(cp++ce)[j]?=some v→wr.cell? ⟨g,o+j,none⟩=some v):
  ∃ k a nm n s ls args A5 c5 A6 c6 k2 a2 nm2 n2 s2 ls2 args2 arms2 A52 c52 A62 c62 A72 c72,p = .mk k a nm n s ls args∧x = .mk k2 a2 nm2 n2 s2 ls2 args2 arms2∧Bw w0 ok (.mk k a nm n s ls args) [vI k,vI a,vS nm,vI n,vS s,.slice A5 ls.length c5,.slice A6 args.length c6] ∧
   Ak w0 ok (.mk k2 a2 nm2 n2 s2 ls2 args2 arms2) [vI k2,vI a2,vS nm2,vI n2,vS s2,.slice A52 ls2.length c52,.slice A62 args2.length c62,.slice A72 arms2.length c72] ∧
   wr.cell? ⟨g,o,none⟩=some (vI k)∧wr.cell? ⟨g,o+1,none⟩=some (vI a)∧wr.cell? ⟨g,o+2,none⟩=some (vS nm)∧wr.cell? ⟨g,o+3,none⟩=some (vI n)∧wr.cell? ⟨g,o+4,none⟩=some (vS s)∧wr.cell? ⟨g,o+5,none⟩=some (.slice A5 ls.length c5)∧wr.cell? ⟨g,o+6,none⟩=some (.slice A6 args.length c6)∧
   wr.cell? ⟨g,o+7,none⟩=some (vI k2)∧wr.cell? ⟨g,o+8,none⟩=some (vI a2)∧wr.cell? ⟨g,o+9,none⟩=some (vS nm2)∧wr.cell? ⟨g,o+10,none⟩=some (vI n2)∧wr.cell? ⟨g,o+11,none⟩=some (vS s2)∧wr.cell? ⟨g,o+12,none⟩=some (.slice A52 ls2.length c52)∧wr.cell? ⟨g,o+13,none⟩=some (.slice A62 args2.length c62)∧wr.cell? ⟨g,o+14,none⟩=some (.slice A72 arms2.length c72):=by
 cases hp with
 | @mk k a nm n s ls args v5 v6 c5 c6 h5 e5 h6 e6 =>
 cases hx with
 | @mk k2 a2 nm2 n2 s2 ls2 args2 arms2 v52 v62 v72 d5 d6 dp de i5 f5 i6 f6 i7 f7 f8 =>
  obtain⟨A5,cc5,r5⟩:=h5.form;obtain⟨A6,cc6,r6⟩:=h6.form;obtain⟨A52,cc52,r52⟩:=i5.form;obtain⟨A62,cc62,r62⟩:=i6.form;obtain⟨A72,cc72,r72⟩:=i7.form;subst r5 r6 r52 r62 r72;exact⟨_,_,_,_,_,_,_,_,_,_,_,_,_,_,_,_,_,_,_,_,_,_,_,_,_,rfl,rfl,.mk c5 c6 h5 e5 h6 e6,.mk d5 d6 dp de i5 f5 i6 f6 i7 f7 f8,hc 0 _ rfl,hc 1 _ rfl,hc 2 _ rfl,hc 3 _ rfl,hc 4 _ rfl,hc 5 _ rfl,hc 6 _ rfl,hc 7 _ rfl,hc 8 _ rfl,hc 9 _ rfl,hc 10 _ rfl,hc 11 _ rfl,hc 12 _ rfl,hc 13 _ rfl,hc 14 _ rfl⟩
theorem op_one(w0:World)(ok:Nat→Prop)(P N:Nat)(hE:EC w0 ok P N)(n:Int)(hn:n=6∨n=9∨n=11)(args:List Ad)(A6:Option Addr)(cc6:Nat)(cs:Nat→List Value)(h6:En w0 ok (.slice A6 args.length cc6) args.length 8 cs)(e6:∀ (i:Nat)(x:Ad),args[i]?=some x→Ak w0 ok x (cs i))(hN:Bk args<N)(hs:Kq args)(hna:args.length=D4 n)(rs:List (Nat×Obj))(l:LB)(wr:World)(hb:WB w0 P rs l wr)(hl:l.length+(opT n (Bj args)).length≤70368744177664):
  Calls prog 116 #[.pointer (some ⟨P,0,none⟩),vI n,.slice A6 args.length cc6] wr (Sd w0 P rs (l++opT n (Bj args)) (Ax args)):=by
 have cS:=fun w=>Hz (Oc n oM oM w)
 obtain⟨x,rfl⟩:∃ x,args=[x]:=Ko (by rw[hna];rcases hn with rfl|rfl|rfl <;> rfl)
 have HW:Hid (l++Gj [(Fj n)++[32]] (Bj [x])=l++opT n (Bj [x])):=Hz (by rcases hn with rfl|rfl|rfl <;> simp[opT,Gj,Bj]);rw[← La'] at hl
 generalize l++opT n (Bj [x])=M at *
 have HL:=Hz hl;have cR:=fun w hb=>Hz (WB.row (wr:=w) (rs:=rs) hE h6 e6 hN hs sM hb [(Fj n)++[32]] 1 HW.out HL.out sM sM)
 clear hE h6 e6 hN hs hl;have hs5:=Sq n
 generalize hsg:Fj n=sg at *
 have hs6:(⟨sg.toArray⟩:ByteArray).size≤5:=by simpa [ByteArray.size] using hs5
 have hcat:=Ks sg [32];clear hsg hna;rcases hn with rfl|rfl|rfl
 all_goals
  exact qq139
theorem op_two(w0:World)(ok:Nat→Prop)(P N:Nat)(hE:EC w0 ok P N)(n:Int)(hn:n=1∨n=2∨n=3∨n=4∨n=5∨n=7∨n=8∨n=12)(args:List Ad)(A6:Option Addr)(cc6:Nat)(cs:Nat→List Value)(h6:En w0 ok (.slice A6 args.length cc6) args.length 8 cs)(e6:∀ (i:Nat)(x:Ad),args[i]?=some x→Ak w0 ok x (cs i))(hN:Bk args<N)(hs:Kq args)(hna:args.length=D4 n)(rs:List (Nat×Obj))(l:LB)(wr:World)(hb:WB w0 P rs l wr)(hl:l.length+(opT n (Bj args)).length≤70368744177664):
  Calls prog 116 #[.pointer (some ⟨P,0,none⟩),vI n,.slice A6 args.length cc6] wr (Sd w0 P rs (l++opT n (Bj args)) (Ax args)):=by
 have cS:=fun w=>Hz (Oc n oM oM w)
 obtain⟨x,y,rfl⟩:∃ x y,args=[x,y]:=Kk (by rw[hna];rcases hn with rfl|rfl|rfl|rfl|rfl|rfl|rfl|rfl <;> rfl)
 have HW:Hid (l++Gj [[],([32]++(Fj n))++[32]] (Bj [x,y])=l++opT n (Bj [x,y])):=Hz (by rcases hn with rfl|rfl|rfl|rfl|rfl|rfl|rfl|rfl <;> simp[opT,Gj,Bj]);rw[← La'] at hl
 generalize l++opT n (Bj [x,y])=M at *
 have HL:=Hz hl;have cR:=fun w hb=>Hz (WB.row (wr:=w) (rs:=rs) hE h6 e6 hN hs sM hb [[],([32]++(Fj n))++[32]] 2 HW.out HL.out sM sM)
 clear hE h6 e6 hN hs hl;have hs5:=Sq n
 generalize hsg:Fj n=sg at *
 have hs6:(⟨sg.toArray⟩:ByteArray).size≤5:=by simpa [ByteArray.size] using hs5
 have hcat:=(show(⟨#[32]⟩++⟨sg.toArray⟩++⟨#[32]⟩:ByteArray)=⟨(([32]++sg)++[32]).toArray⟩ by rw[Ks [32] sg,Ks])
 clear hsg hna;rcases hn with rfl|rfl|rfl|rfl|rfl|rfl|rfl|rfl
 all_goals
  exact qq139
theorem nn389(h:p:=by
 refine C2.out.mono ?_;rintro e w4 (⟨hok2,rfl,hb⟩| ⟨hok2,rfl,hf⟩)
 ·have HW2:=Hz (Ba HW1.out);have HO2:=Hz HO1.out;rw[hok2,Bool.true_and] at HO2;clear hok2 C2 HW1 HO1 HW HO l0 l1 l2 l3 l4 l5 l6 l7;exact qq169
 ·go_wp2_with fail;exact⟨rfl,Sd.gave (by rw[← HO1.out,hok2];rfl) hf⟩):p:=h
theorem op_call(w0:World)(ok:Nat→Prop)(P N:Nat)(hE:EC w0 ok P N)(n:Int)(h1:1≤n)(h2:n≤21)(hn:¬ (n=6∨n=9∨n=11)∧¬ (n≤8∨n=12))(args:List Ad)(A6:Option Addr)(cc6:Nat)(cs:Nat→List Value)(h6:En w0 ok (.slice A6 args.length cc6) args.length 8 cs)(e6:∀ (i:Nat)(x:Ad),args[i]?=some x→Ak w0 ok x (cs i))(hN:Bk args<N)(hs:Kq args)(hna:args.length=D4 n)(rs:List (Nat×Obj))(l:LB)(wr:World)(hb:WB w0 P rs l wr)(hl:l.length+(opT n (Bj args)).length≤70368744177664):
  Calls prog 116 #[.pointer (some ⟨P,0,none⟩),vI n,.slice A6 args.length cc6] wr (Sd w0 P rs (l++opT n (Bj args)) (Ax args)):=by
 have cS:=fun w=>Hz (Oc n h1 h2 w)
 have HW:Hid (l++(Fj n++Ik (Bj args))=l++opT n (Bj args)):=Hz (by rw[opT,if_neg hn.1,if_neg hn.2]);rw[← La'] at hl;have hal:args.length≤3:=by rw[hna];unfold D4;split <;>(try split)<;> omega
 have hal2:(args.length:Int)≤3:=by omega
 generalize l++opT n (Bj args)=M at *
 have HL:=Hz hl;have HO:Hid (Ax (args.drop 0)=Ax args):=Hz rfl
 generalize Ax args=O at *
 generalize Fj n=sg at *
 have IH:=Hz hE;have H6:=Hz h6;have E6:Hid (∀ (i:Nat) (x:Ad),args[i]?=some x→Ak w0 ok x (cs i)):=Hz e6;have HN:=Hz hN;have HS:=Hz hs;have z6:(n==6)=false:=by rw[bN];omega
 have z9:(n==9)=false:=by rw[bN];omega
 have z11:(n==11)=false:=by rw[bN];omega
 have z8:decide (n≤8)=false:=by simp;omega
 have z12:(n==12)=false:=by rw[bN];omega
 clear hE h6 e6 hN hs hl hn hna h1 h2;go_enter func116,ntmps116;go_wp2_with fail;refine(cS _).out.mono ?_;rintro e w1 ⟨rfl,rfl⟩;go_wp2_with fail;refine(hb.add1 sg _ (by have:=Bb HW.out HL.out;omega)).mono ?_;rintro e w2 ⟨rfl,hb⟩;have HW0:Hid ((l++sg)++Ik (Bj (args.drop 0))=M):=Hz (Ba HW.out);clear HW cS;go_wp2_with fail
 go_loopw [15] (fun iv wx=>∃ (i:Nat) (m:LB),iv=vI i∧i≤args.length∧WB w0 P rs m wx∧Hid (m++Ik (Bj (args.drop i))=M)∧Hid (Ax (args.drop i)=O)) (fun iv wx=>args.length-(intOf iv).toNat)
 case atStart=>exact⟨0,_,rfl,oM,hb,HW0,HO⟩
 case round =>
  obtain⟨i,m,rfl,hi,hb,HW,HO⟩:=hrel;clear HW0;by_cases hlt:i<args.length
  ·obtain⟨x,hx⟩:∃ x,args[i]?=some x:=⟨args[i],Lg' hlt⟩
   have hw:m++([32]++(txE x++Ik (Bj (args.drop (i+1)))))=M:=by rw[← HW.out,call_at hx];rfl
   have ho:(Bh x&&Ax (args.drop (i+1)))=O:=by rw[← HO.out,N3 hx]
   have HX:=Hz hx;have HW1:=Hz (Ba hw);have HO1:=Hz ho;obtain⟨g,o,hA,hg,hc⟩:=H6.out.elem hb.frame hlt;subst hA;obtain⟨k2,a2,nm2,n2,s2,ls2,args2,arms2,A52,c52,A62,c62,A72,c72,rfl,hx2,x0,x1,x2,x3,x4,x5,x6,x7⟩:=(E6.out i _ hx).told hc;have q1:(0:Int)≤(i:Int):=by omega
   have q2:(i:Int)<(args.length:Int):=by omega
   have hml:=Hz (Bb hw HL.out);have hq:(wr.alloc (.cells #[vI k2,vI a2,vS nm2,vI n2,vS s2,.slice A52 ls2.length c52,.slice A62 args2.length c62,.slice A72 arms2.length c72] 27)).heap.size=wr.heap.size+1:=by simp
   replace hb:=hb.new (.cells #[vI k2,vI a2,vS nm2,vI n2,vS s2,.slice A52 ls2.length c52,.slice A62 args2.length c62,.slice A72 arms2.length c72] 27);clear hx hw ho hc;go_wp2_with fail
   generalize wr.heap.size=Tx at *
   refine(WB.add1q hq hb [32] _ (by have:=hml.out;omega)).mono ?_;rintro e w3 ⟨rfl,hb⟩;clear x0 x1 x2 x3 x4 x5 x6 x7;have kqq187:=@Hz _ @nn389;exact qq187
  ·have ei:i=args.length:=by omega
   subst ei;have hw:=HW.out;rw[call_end (Nr' _)] at hw;have ho:=HO.out;rw[Lb (Nr' _)] at ho;go_wp2_with fail
   go_end0
   exact Sd.done ho.symm (Dc hw) hb
theorem wop_any(w0:World)(ok:Nat→Prop)(P N:Nat)(hE:EC w0 ok P N)(n:Int)(h1:1≤n)(h2:n≤21)(args:List Ad)(A6:Option Addr)(cc6:Nat)(cs:Nat→List Value)(h6:En w0 ok (.slice A6 args.length cc6) args.length 8 cs)(e6:∀ (i:Nat)(x:Ad),args[i]?=some x→Ak w0 ok x (cs i))(hN:Bk args<N)(hs:Kq args)(hna:args.length=D4 n)(rs:List (Nat×Obj))(l:LB)(wr:World)(hb:WB w0 P rs l wr)(hl:l.length+(opT n (Bj args)).length≤70368744177664):
  Calls prog 116 #[.pointer (some ⟨P,0,none⟩),vI n,.slice A6 args.length cc6] wr (Sd w0 P rs (l++opT n (Bj args)) (Ax args)):=by
 by_cases ha:n=6∨n=9∨n=11
 ·exact op_one w0 ok P N hE n ha args A6 cc6 cs h6 e6 hN hs hna rs l wr hb hl
 ·by_cases hc:n≤8∨n=12
  ·exact op_two w0 ok P N hE n oM args A6 cc6 cs h6 e6 hN hs hna rs l wr hb hl
  ·exact op_call w0 ok P N hE n h1 h2 ⟨ha,hc⟩ args A6 cc6 cs h6 e6 hN hs hna rs l wr hb hl
end
end Go.Proofs.YtlafbbnikgcdlaaGreatDoor
