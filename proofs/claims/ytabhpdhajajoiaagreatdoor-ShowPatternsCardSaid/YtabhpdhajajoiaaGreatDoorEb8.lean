/- A part of the proof: Hk, Vp, Va, Vb, Vb2, Vc, Vn, Vd, Vs. -/
import Derived.BigQuiet
import Derived.Deep.DrawnRows
import Derived.Deep.QuietTactic
import Derived.BigRegion
import Derived.Deep.RegionHeld3
import Derived.Lib.UnsafeStr
import Derived.Shelf.RegionOpenPlain
import Derived.Test.YtabhpdhajajoiaaGreatDoorEb7
namespace Go.Proofs.YtabhpdhajajoiaaGreatDoor
open Go.RowKit
open _root_.Go.Proofs.Tryz
set_option linter.all false
set_option maxHeartbeats 16000000
set_option maxRecDepth 100000
open List renaming length_cons→Lc',length_append→La',getElem?_eq_getElem→Lg',mem_cons_self→Lm',length_nil→Ln',append_assoc→Ls'
open Nat renaming lt_of_lt_of_le→Nl',le_refl→Nr'
theorem Fg{α:Type}{l:List α}{i:Nat}{x:α}(h:l[i]?=some x):l.drop i=x::l.drop (i+1):=by
 obtain⟨hi,e⟩:=List.getElem?_eq_some_iff.1 h;rw[List.drop_eq_getElem_cons hi,e]
theorem Nb{l:List Ab}{i:Nat}{x:Ab}(h:l[i]?=some x):Az (l.drop i)=txE x::Az (l.drop (i+1)):=by rw[Fg h];rfl
theorem txPs_drop{l:List Ak}{i:Nat}{x:Ak}(h:l[i]?=some x):Gg (l.drop i)=txP x::Gg (l.drop (i+1)):=by rw[Fg h];rfl
theorem txAs_drop{l:List (Ak×Ab)}{i:Nat}{p:Ak}{x:Ab}(h:l[i]?=some (p,x)):Cr (l.drop i)=(txP p,txE x)::Cr (l.drop (i+1)):=by rw[Fg h];rfl
theorem Lj{l:List Ab}{i:Nat}{x:Ab}(h:l[i]?=some x):Au (l.drop i)=(Be x&&Au (l.drop (i+1))):=by rw[Fg h];rfl
theorem Xh{l:List Ak}{i:Nat}{x:Ak}(h:l[i]?=some x):Db (l.drop i)=(Ct x&&Db (l.drop (i+1))):=by rw[Fg h];rfl
theorem Xe{l:List (Ak×Ab)}{i:Nat}{p:Ak}{x:Ab}(h:l[i]?=some (p,x)):A0 (l.drop i)=((Ct p&&Be x)&&A0 (l.drop (i+1))):=by rw[Fg h];rfl
def E2:List LB→List LB→List UInt8
 | [],_=>[]
 | t::ts,[]=>t++E2 ts []
 | t::ts,x::xs=>t++(x++E2 ts xs)
section
variable {w0 wr:World} {ok:Nat→Prop} {A:Option Addr} {m n c size:Nat} {cs:Nat→List Value}
theorem Dy.elem(h:Dy w0 ok (.slice A m c) n size cs)(hf:Fr [] w0 wr){i:Nat}(hi:i<n):∃ g o,A=some ⟨g,o,none⟩∧g<wr.heap.size∧∀ (j:Nat)(v:Value),(cs i)[j]?=some v→wr.cell? ⟨g,o+i * size+j,none⟩=some v:=by
 obtain⟨g,o,rfl,rfl,hg,hk,hl,hc⟩:=h.row hi;exact⟨g,o,rfl,Nl' hg hf.size,fun j v hj=>(hf.cell (p:=⟨g,o+i * size+j,none⟩) hg (fun x=>by cases x)).trans (hc j v hj)⟩
theorem Dy.tail{g o:Nat}(h:Dy w0 ok (.slice (some ⟨g,o,none⟩) (n+1) c) (n+1) size cs):Dy w0 ok (.slice (some ⟨g,o+size,none⟩) n (c-1)) n size (fun i=>cs (i+1)):=by
 obtain⟨g',o',e,_,hg,hk,_⟩:=h.row (i:=0) (by omega);cases e;refine .inr ⟨g,o+size,c-1,rfl,hk,hg,(by have:=h.cap (by omega);omega),fun i hi=>?_⟩;obtain⟨g',o',e,_,hg,hk,hl,hc⟩:=h.row (i:=i+1) (by omega);cases e;refine⟨hl,fun j v hj=>?_⟩;have:=hc j v hj;rw[Nat.succ_mul] at this;rw[show o+size+i * size+j=o+(i * size+size)+j by omega];exact this
end
def Cell8(wr:World)(g o:Nat)(k a:Int)(nm:LB)(n:Int)(s:LB)(v5 v6 v7:Value):Prop :=
 wr.cell? ⟨g,o,none⟩=some (vI k)∧wr.cell? ⟨g,o+1,none⟩=some (vI a)∧wr.cell? ⟨g,o+2,none⟩=some (vS nm)∧wr.cell? ⟨g,o+3,none⟩=some (vI n)∧wr.cell? ⟨g,o+4,none⟩=some (vS s)∧wr.cell? ⟨g,o+5,none⟩=some v5∧wr.cell? ⟨g,o+6,none⟩=some v6∧wr.cell? ⟨g,o+7,none⟩=some v7
def Cell7(wr:World)(g o:Nat)(k a:Int)(nm:LB)(n:Int)(s:LB)(v5 v6:Value):Prop :=
 wr.cell? ⟨g,o,none⟩=some (vI k)∧wr.cell? ⟨g,o+1,none⟩=some (vI a)∧wr.cell? ⟨g,o+2,none⟩=some (vS nm)∧wr.cell? ⟨g,o+3,none⟩=some (vI n)∧wr.cell? ⟨g,o+4,none⟩=some (vS s)∧wr.cell? ⟨g,o+5,none⟩=some v5∧wr.cell? ⟨g,o+6,none⟩=some v6
theorem Aj.told{w0 wr:World}{ok:Nat→Prop}{x:Ab}{cs:List Value}(h:Aj w0 ok x cs){g o:Nat}(hc:∀ (j:Nat)(v:Value),cs[j]?=some v→wr.cell? ⟨g,o+j,none⟩=some v):
  ∃ k a nm n s ls args arms A5 c5 A6 c6 A7 c7,x = .mk k a nm n s ls args arms∧Aj w0 ok (.mk k a nm n s ls args arms) [vI k,vI a,vS nm,vI n,vS s,.slice A5 ls.length c5,.slice A6 args.length c6,.slice A7 arms.length c7]∧Cell8 wr g o k a nm n s (.slice A5 ls.length c5) (.slice A6 args.length c6) (.slice A7 arms.length c7):=by
 cases h with
 | @mk k a nm n s ls args arms v5 v6 v7 c5 c6 cp ce h5 e5 h6 e6 h7 e7 e8 =>
  obtain⟨A5,cc5,r5⟩:=h5.form;obtain⟨A6,cc6,r6⟩:=h6.form;obtain⟨A7,cc7,r7⟩:=h7.form;subst r5 r6 r7;exact⟨_,_,_,_,_,_,_,_,_,_,_,_,_,_,rfl,.mk c5 c6 cp ce h5 e5 h6 e6 h7 e7 e8,hc 0 _ rfl,hc 1 _ rfl,hc 2 _ rfl,hc 3 _ rfl,hc 4 _ rfl,hc 5 _ rfl,hc 6 _ rfl,hc 7 _ rfl⟩
theorem Bd.told{w0 wr:World}{ok:Nat→Prop}{x:Ak}{cs:List Value}(h:Bd w0 ok x cs){g o:Nat}(hc:∀ (j:Nat)(v:Value),cs[j]?=some v→wr.cell? ⟨g,o+j,none⟩=some v):
  ∃ k a nm n s ls args A5 c5 A6 c6,x = .mk k a nm n s ls args∧Bd w0 ok (.mk k a nm n s ls args) [vI k,vI a,vS nm,vI n,vS s,.slice A5 ls.length c5,.slice A6 args.length c6]∧Cell7 wr g o k a nm n s (.slice A5 ls.length c5) (.slice A6 args.length c6):=by
 cases h with
 | @mk k a nm n s ls args v5 v6 c5 c6 h5 e5 h6 e6 =>
  obtain⟨A5,cc5,r5⟩:=h5.form;obtain⟨A6,cc6,r6⟩:=h6.form;subst r5 r6;exact⟨_,_,_,_,_,_,_,_,_,_,_,rfl,.mk c5 c6 h5 e5 h6 e6,hc 0 _ rfl,hc 1 _ rfl,hc 2 _ rfl,hc 3 _ rfl,hc 4 _ rfl,hc 5 _ rfl,hc 6 _ rfl⟩
def Ky.v(h:Ky):Value:=.agg #[.bool h.name,.bool h.n,.bool h.s,.bool h.labels,vI (h.args:Int),.bool h.arms]
section
variable {k a n:Int} {nm s:LB} {ls:List LB} {args:List Ab} {arms:List (Ak×Ab)} {pats:List Ak} {h:Ky}
theorem mayE_none(hh:Bt k n ls.length=none):Be (.mk k a nm n s ls args arms)=false:=by
 rw[Be,El,hh];simp
theorem Py(hh:Bt k n ls.length=some h)(hr:Ah h nm n s ls.length args.length arms.length=false):Be (.mk k a nm n s ls args arms)=false:=by
 rw[Be,El,hh];simp[hr]
theorem Px(hh:Bt k n ls.length=some h)(hr:Ah h nm n s ls.length args.length arms.length=true):Be (.mk k a nm n s ls args arms)=(A9 k nm n ls (Dp args)&&Au args&&A0 arms):=by
 rw[Be,El,hh];simp[hr]
theorem mayP_none(hh:Ee k ls.length=none):Ct (.mk k a nm n s ls pats)=false:=by
 rw[Ct,F0,hh];simp
theorem Xg(hh:Ee k ls.length=some h)(hr:Ah h nm n s ls.length pats.length 0=false):Ct (.mk k a nm n s ls pats)=false:=by
 rw[Ct,F0,hh];simp[hr]
theorem Xf(hh:Ee k ls.length=some h)(hr:Ah h nm n s ls.length pats.length 0=true):Ct (.mk k a nm n s ls pats)=(D9 k nm n ls&&Db pats):=by
 rw[Ct,F0,hh];simp[hr]
end
section
variable {f:Bool} {ls:List LB} {i:Nat} {x:LB}
theorem rowE_at{l:List Ab}{y:Ab}(h1:ls[i]?=some x)(h2:l[i]?=some y):G8 f (ls.drop i) (Az (l.drop i))=(if f=true then [] else [44,32])++(x++([32,61,32]++(txE y++G8 false (ls.drop (i+1)) (Az (l.drop (i+1)))))):=by
 rw[Fg h1,Nb h2];rfl
theorem rowP_at{l:List Ak}{y:Ak}(h1:ls[i]?=some x)(h2:l[i]?=some y):G8 f (ls.drop i) (Gg (l.drop i))=(if f=true then [] else [44,32])++(x++([32,61,32]++(txP y++G8 false (ls.drop (i+1)) (Gg (l.drop (i+1)))))):=by
 rw[Fg h1,txPs_drop h2];rfl
theorem Y1{l:List LB}(h:ls.length≤i):G8 f (ls.drop i) l=[]:=by
 rw[List.drop_eq_nil_of_le h];cases l <;> rfl
theorem arm_at{l:List (Ak×Ab)}{p:Ak}{y:Ab}(h:l[i]?=some (p,y)):Gj f (Cr (l.drop i))=(if f=true then [] else [32,124,32])++(txP p++([32,45,62,32]++(txE y++Gj false (Cr (l.drop (i+1)))))):=by
 rw[txAs_drop h];rfl
theorem arm_end{l:List (Ak×Ab)}(h:l.length≤i):Gj f (Cr (l.drop i))=[]:=by
 rw[List.drop_eq_nil_of_le h];rfl
theorem call_at{l:List Ab}{y:Ab}(h:l[i]?=some y):Gh (Az (l.drop i))=32::(txE y++Gh (Az (l.drop (i+1)))):=by
 rw[Nb h];rfl
theorem call_end{l:List Ab}(h:l.length≤i):Gh (Az (l.drop i))=[]:=by
 rw[List.drop_eq_nil_of_le h];rfl
theorem Yd(h1:ls[i]?=some x):(ls.drop i).all As=(As x&&(ls.drop (i+1)).all As):=by
 rw[Fg h1];rfl
end
section
variable {texts:List LB} {l:List Ab} {i:Nat} {t:LB} {x:Ab}
theorem rowT_in(h1:texts[i]?=some t)(h2:l[i]?=some x):E2 (texts.drop i) (Az (l.drop i))=t++(txE x++E2 (texts.drop (i+1)) (Az (l.drop (i+1)))):=by
 rw[Fg h1,Nb h2];rfl
theorem rowT_past(h1:texts[i]?=some t)(h2:l.length≤i):E2 (texts.drop i) (Az (l.drop i))=t++E2 (texts.drop (i+1)) (Az (l.drop (i+1))):=by
 rw[Fg h1,List.drop_eq_nil_of_le h2,List.drop_eq_nil_of_le (by omega:l.length≤i+1)];rfl
theorem rowT_end(h1:texts.length≤i):E2 (texts.drop i) (Az (l.drop i))=[]:=by
 rw[List.drop_eq_nil_of_le h1];rfl
theorem Iu(h:l.length≤i):Au (l.drop i)=true:=by rw[List.drop_eq_nil_of_le h];rfl
theorem mayPs_end{l:List Ak}(h:l.length≤i):Db (l.drop i)=true:=by rw[List.drop_eq_nil_of_le h];rfl
theorem mayAs_end{l:List (Ak×Ab)}(h:l.length≤i):A0 (l.drop i)=true:=by rw[List.drop_eq_nil_of_le h];rfl
end
theorem Ax{m t r M:LB}(h:m++(t++r)=M){B:Nat}(hB:M.length≤B):m.length+t.length≤B:=by
 rw[← h] at hB;simp only[La'] at hB;omega
theorem Aw{m t r M:LB}(h:m++(t++r)=M):(m++t)++r=M:=by rw[← h,Ls']
theorem Cm{m M:LB}(h:m++[]=M):m=M:=by rw[← h,List.append_nil]
def TW:TypeId:=114
theorem btW:BT TW:=⟨by kernel_rfl,by decide⟩
def fl:List PanicEntry:=[{ v:=.iface 150 (.agg #[vI 5]),recovered:=false }]
def WB(w0:World)(P:Nat)(rs:List (Nat×Obj))(l:LB)(wr:World):Prop :=
 ∃ own,Jd TW P own l wr∧(∀ g,own=some g→w0.heap.size≤g)∧w0.heap.size≤P∧Fr [] w0 wr∧∀ k o,(k,o) ∈ rs→wr.heap[k]?=some o∧k≠P∧own≠some k
section
variable {w0 wr w':World} {P:Nat} {rs:List (Nat×Obj)} {l:LB}
theorem WB.frame(h:WB w0 P rs l wr):Fr [] w0 wr:=by
 obtain⟨own,_,_,_,hf,_⟩:=h;exact hf
theorem WB.at(h:WB w0 P rs l wr){k:Nat}{o:Obj}(hm:(k,o) ∈ rs):wr.heap[k]?=some o:=by
 obtain⟨own,_,_,_,_,hr⟩:=h;exact(hr k o hm).1
theorem WB.fr(h:WB w0 P rs l wr)(hf:Fr [] wr w'):WB w0 P rs l w':=by
 obtain⟨own,hb,hg,hbw,hfr,hr⟩:=h;refine⟨own,hb.keep hf (fun h=>by cases h) (fun _ _ h=>by cases h),hg,hbw,hfr.trans hf,fun k o e=>?_⟩;obtain⟨h1,h2⟩:=hr k o e;exact⟨hf.keep h1 (fun h=>by cases h),h2⟩
theorem WB.new(h:WB w0 P rs l wr)(o:Obj):WB w0 P ((wr.heap.size,o)::rs) l (wr.alloc o):=by
 obtain⟨own,hb,hg,hbw,hfr,hr⟩:=h;have hf:=(Fr.refl [] wr).alloc o;have h1:=hb.lt;have h2:=hb.own_lt;refine⟨own,hb.keep hf (fun h=>by cases h) (fun _ _ h=>by cases h),hg,hbw,hfr.trans hf,fun k o' e=>?_⟩;rcases List.mem_cons.1 e with e|e
 ·cases e;exact⟨Ad wr o,by omega,fun e=>by have:=h2 _ e;omega⟩
 ·obtain⟨h1,h2⟩:=hr k o' e;exact⟨hf.keep h1 (fun h=>by cases h),h2⟩
theorem WB.weak{rs':List (Nat×Obj)}(h:WB w0 P rs l wr)(hm:∀ x ∈ rs',x ∈ rs):WB w0 P rs' l wr:=by
 obtain⟨own,hb,hg,hbw,hfr,hr⟩:=h;exact⟨own,hb,hg,hbw,hfr,fun k o e=>hr k o (hm _ e)⟩
theorem WB.drop{x:Nat×Obj}(h:WB w0 P (x::rs) l wr):WB w0 P rs l wr:=h.weak fun _ hx=>List.mem_cons_of_mem _ hx
theorem WB.le(h:WB w0 P rs l wr):w0.heap.size≤wr.heap.size:=h.frame.size
theorem WB.write(h:WB w0 P rs l wr)(s:LB)(hlen:l.length+s.length≤140737488355328):
  Calls prog 96 #[.pointer (some ⟨P,0,none⟩),vS s] wr fun e w'=>e = .returned (.tuple #[vI s.length,.nilIface])∧WB w0 P rs (l++s) w':=by
 obtain⟨own,hb,hg,hbw,hfr,hr⟩:=h;refine(Kp TW btW P own l ⟨s.toArray⟩ wr hb hlen).mono ?_;rintro e w' ⟨rfl,⟨own',hb',hfp⟩,hf⟩;refine⟨rfl,own',hb',?_,hbw,hfr.step hf ?_,?_⟩
 ·intro g e;rcases hfp g e with h|h
  ·exact hg g h
  ·have:=hfr.size;omega
 ·intro x hx;simp only[List.mem_cons,Option.mem_toList] at hx;rcases hx with rfl|hx
  ·exact .inr hbw
  ·exact .inr (hg x hx)
 ·intro k o e;obtain⟨h1,h2,h3⟩:=hr k o e;refine⟨hf.keep h1 ?_,h2,?_⟩
  ·intro hx;simp only[List.mem_cons,Option.mem_toList] at hx;rcases hx with hx|hx
   ·exact h2 hx
   ·exact h3 hx
  ·intro e';rcases hfp k e' with h|h
   ·exact h3 h
   ·have:=Aa h1;omega
end
def Sd(w0:World)(P:Nat)(rs:List (Nat×Obj))(m:LB)(ok:Bool)(e:Ending)(w':World):Prop :=
 (ok=true∧e = .returned (.tuple #[])∧WB w0 P rs m w')∨(ok=false∧e = .panicked fl∧Fr [] w0 w')
def Nu(ss:List LB):Obj:=.cells (ss.map fun s=>Value.string ⟨s.toArray⟩).toArray 9
theorem Sd.done{w0:World}{P:Nat}{rs:List (Nat×Obj)}{m M:LB}{O:Bool}{w:World}(hO:O=true)(hm:m=M)(hb:WB w0 P rs m w):Sd w0 P rs M O (.returned (.tuple #[])) w:=.inl ⟨hO,rfl,hm ▸ hb⟩
theorem Sd.gave{w0:World}{P:Nat}{rs:List (Nat×Obj)}{M:LB}{O:Bool}{w:World}(hO:O=false)(hf:Fr [] w0 w):Sd w0 P rs M O (.panicked fl) w:=.inr ⟨hO,rfl,hf⟩
theorem Y5{w:World}{q i:Nat}{ss:List LB}{t:LB}(h:w.heap[q]?=some (Nu ss))(ht:ss[i]?=some t):w.cell? ⟨q,i,none⟩=some (vS t):=by
 unfold Nu at h;rw[Ae h];simp[ht]
theorem I4(a b:LB):(⟨a.toArray⟩++⟨b.toArray⟩:ByteArray)=⟨(a++b).toArray⟩:=by
 apply ByteArray.ext;simp[ByteArray.data_append]
theorem Ql{ss:List LB}{i:Nat}{t:LB}(ht:ss[i]?=some t)(l:LB):l++(ss.take (i+1)).flatten=(l++(ss.take i).flatten)++t:=by
 obtain⟨hi,e⟩:=List.getElem?_eq_some_iff.1 ht;rw[List.take_succ_eq_append_getElem hi,e];simp
theorem Uq:∀ ss:List LB,ss.flatten.length=sumL ss
 | []=>rfl
 | x::l=>by rw[List.flatten_cons,La',Uq l];rfl
theorem take_len{ss:List LB}{i:Nat}{t:LB}(ht:ss[i]?=some t):(ss.take i).flatten.length+t.length≤sumL ss:=by
 have h1:ss=ss.take i++ss.drop i:=(List.take_append_drop i ss).symm;have h2:=Uq ss;rw[h1,Fg ht,List.flatten_append,List.flatten_cons,La',La',← Fg ht,← h1] at h2;omega
theorem must_yes(w:World):Calls prog 58 #[.bool true] w fun e w'=>e = .returned (.tuple #[])∧w'=w:=by
 go_enter func58,ntmps58;go_wp2_with fail
 go_end0
 exact⟨rfl,rfl⟩
theorem must_no(w:World):Calls prog 58 #[.bool false] w fun e w'=>e = .panicked fl∧Fr [] w w':=by
 go_enter func58,ntmps58;go_wp2_with fail;exact⟨rfl,rfl,Fr.refl _ _⟩
theorem add_any(w0:World)(P q c:Nat)(rs:List (Nat×Obj))(l:LB)(ss:List LB)(wr:World)(h:WB w0 P rs l wr)(hq:(q,Nu ss) ∈ rs)(hlen:l.length+sumL ss≤140737488355328)(hn:ss.length≤1000000):
  Calls prog 59 #[.pointer (some ⟨P,0,none⟩),.slice (some ⟨q,0,none⟩) ss.length c] wr fun e w'=>e = .returned (.tuple #[])∧WB w0 P rs (l++ss.flatten) w':=by
 have HQ:=Hz hq;have HL:=Hz hlen;have hn':(ss.length:Int)≤1000000:=by omega
 clear hq hlen;go_enter func59,ntmps59;go_wp2_with fail
 go_loopw [8] (fun iv wx=>∃ i:Nat,iv=vI i∧i≤ss.length∧WB w0 P rs (l++(ss.take i).flatten) wx) (fun iv wx=>ss.length-(intOf iv).toNat)
 case atStart=>exact⟨0,rfl,by omega,by simpa using h⟩
 case round =>
  obtain⟨i,rfl,hi,hb⟩:=hrel;by_cases hlt:i<ss.length
  ·obtain⟨t,ht⟩:∃ t,ss[i]?=some t:=⟨ss[i],Lg' hlt⟩
   have t0:=Y5 (hb.at HQ.out) ht;have hw:=hb.write t (by have:=take_len ht;have:=HL.out;rw[La'];omega);rw[← Ql ht] at hw;clear ht;have q1:(0:Int)≤(i:Int):=by omega
   have q2:(i:Int)<(ss.length:Int):=by omega
   go_wp2_with fail;refine hw.mono ?_;rintro e w2 ⟨rfl,hb⟩;go_wp2_with fail
   go_roundw
   case rel=>exact⟨i+1,by simp,by omega,hb⟩
   case measure=>simp[intOf];omega
  ·have ei:i=ss.length:=by omega
   subst ei;go_wp2_with fail
   go_end0
   rw[List.take_length] at hb;exact⟨rfl,hb⟩
section
variable {w0 wr:World} {P:Nat} {rs:List (Nat×Obj)} {l:LB}
theorem WB.adds(h:WB w0 P rs l wr)(ss:List LB)(c:Nat)(hlen:l.length+sumL ss≤140737488355328)(hn:ss.length≤1000000):
  Calls prog 59 #[.pointer (some ⟨P,0,none⟩),.slice (some ⟨wr.heap.size,0,none⟩) ss.length c] (wr.alloc (Nu ss)) fun e w'=>e = .returned (.tuple #[])∧WB w0 P rs (l++ss.flatten) w' :=
 (add_any w0 P wr.heap.size c _ l ss _ (h.new (Nu ss)) (Lm' ..) hlen hn).mono fun _ _ ⟨he,hb⟩=>⟨he,hb.drop⟩
theorem WB.add1(h:WB w0 P rs l wr)(x:LB)(c:Nat)(hlen:l.length+x.length≤140737488355328):
  Calls prog 59 #[.pointer (some ⟨P,0,none⟩),.slice (some ⟨wr.heap.size,0,none⟩) 1 c] (wr.alloc (.cells #[vS x] 9)) fun e w'=>e = .returned (.tuple #[])∧WB w0 P rs (l++x) w':=by
 have:=h.adds [x] c (by simp[sumL];omega) (by simp);rw[show [x].flatten=x by simp] at this;exact this
theorem WB.add2(h:WB w0 P rs l wr)(x y:LB)(c:Nat)(hlen:l.length+(x++y).length≤140737488355328):
  Calls prog 59 #[.pointer (some ⟨P,0,none⟩),.slice (some ⟨wr.heap.size,0,none⟩) 2 c] (wr.alloc (.cells #[vS x,vS y] 9)) fun e w'=>e = .returned (.tuple #[])∧WB w0 P rs (l++(x++y)) w':=by
 have:=h.adds [x,y] c (by simp[sumL] at *;omega) (by simp);rw[show [x,y].flatten=x++y by simp] at this;exact this
theorem WB.add3(h:WB w0 P rs l wr)(x y z:LB)(c:Nat)(hlen:l.length+(x++(y++z)).length≤140737488355328):
  Calls prog 59 #[.pointer (some ⟨P,0,none⟩),.slice (some ⟨wr.heap.size,0,none⟩) 3 c] (wr.alloc (.cells #[vS x,vS y,vS z] 9)) fun e w'=>e = .returned (.tuple #[])∧WB w0 P rs (l++(x++(y++z))) w':=by
 have:=h.adds [x,y,z] c (by simp[sumL] at *;omega) (by simp);rw[show [x,y,z].flatten=x++(y++z) by simp] at this;exact this
end
section
attribute [local go_sem ↓] Go.wp_at_zero Go.wp_at_succ
theorem Zf(n:Int)(h1:1≤n)(h2:n≤21)(w:World):
  Calls prog 105 #[vI n] w fun e w'=>e = .returned (vI (Dc n))∧w=w':=by
 obtain rfl|rfl|rfl|rfl|rfl|rfl|rfl|rfl|rfl|rfl|rfl|rfl|rfl|rfl|rfl|rfl|rfl|rfl|rfl|rfl|rfl:n=1∨n=2∨n=3∨n=4∨n=5∨n=6∨n=7∨n=8∨n=9∨n=10∨n=11∨n=12∨n=13∨n=14∨n=15∨n=16∨n=17∨n=18∨n=19∨n=20∨n=21:=by omega
 all_goals
  go_enter func105,ntmps105;go_wp2_with fail;go_ret;exact⟨rfl,rfl⟩
theorem P8(vs:Array Value)(i:Nat)(hl:i<22)(v:Value)(hv:vs[i]?=some v)(W:World):
  (Instr.index 214 (.agg vs) (vI i)).run prog W = .ok v W:=by
 simp[Instr.index,asIntOf,part,go_sem,hl,hv]
theorem Lq(n:Int)(h1:1≤n)(h2:n≤21)(w:World):
  Calls prog 140 #[vI n] w fun e w'=>e = .returned (.string ⟨(Bx n).toArray⟩)∧w=w':=by
 obtain⟨i,rfl⟩:∃ i:Nat,n=i:=⟨n.toNat,by omega⟩
 have hv:(#[vE,.string ⟨#[43]⟩,.string ⟨#[45]⟩,.string ⟨#[42]⟩,.string ⟨#[47]⟩,.string ⟨#[37]⟩,.string ⟨#[45]⟩,.string ⟨#[61]⟩,.string ⟨#[60]⟩,.string ⟨#[110,111,116]⟩,.string ⟨#[114,101,102]⟩,.string ⟨#[33]⟩,.string ⟨#[58,61]⟩,.string ⟨#[97,114,114,97,121]⟩,.string ⟨#[103,101,116]⟩,.string ⟨#[115,101,116]⟩,.string ⟨#[108,101,110]⟩,.string ⟨#[115,105,122,101]⟩,.string ⟨#[98,121,116,101]⟩,.string ⟨#[99,97,116]⟩,.string ⟨#[103,101,116,99]⟩,.string ⟨#[112,117,116,99]⟩]:Array Value)[i]?=some (.string ⟨(Bx i).toArray⟩):=by
  obtain rfl|rfl|rfl|rfl|rfl|rfl|rfl|rfl|rfl|rfl|rfl|rfl|rfl|rfl|rfl|rfl|rfl|rfl|rfl|rfl|rfl:i=1∨i=2∨i=3∨i=4∨i=5∨i=6∨i=7∨i=8∨i=9∨i=10∨i=11∨i=12∨i=13∨i=14∨i=15∨i=16∨i=17∨i=18∨i=19∨i=20∨i=21:=by omega
  all_goals rfl
 have hx:=fun W=>P8 _ i (by omega) _ hv W
 clear hv;go_enter func140,ntmps140;go_wp2_with fail;go_ret;exact⟨rfl,rfl⟩
theorem R0(n:Int)(h:(n==0||n==1)=true)(w:World):
  Calls prog 64 #[vI n] w fun e w'=>e = .returned (.string ⟨(Fs n).toArray⟩)∧w'=w:=by
 have h:n=0∨n=1:=by simpa using h
 rcases h with rfl|rfl
 all_goals
  go_enter func64,ntmps64;go_wp2_with fail;refine(must_yes _).mono ?_;rintro e w1 ⟨rfl,rfl⟩;go_wp2_with fail;go_ret;exact⟨rfl,rfl⟩
theorem Wa(n:Int)(h:(n==0||n==1)=false)(w:World):
  Calls prog 64 #[vI n] w fun e w'=>e = .panicked fl∧Fr [] w w':=by
 have h0:(n==0)=false:=by revert h;cases n==0 <;> simp
 have h1:(n==1)=false:=by revert h;cases n==1 <;> simp
 go_enter func64,ntmps64;go_wp2_with fail;refine(must_no _).mono ?_;rintro e w1 ⟨rfl,hf⟩;go_wp2_with fail;exact⟨rfl,rfl,hf⟩
theorem Kl(s:ByteArray)(hs:s.size≤900000)(w:World)(hE:Dx w):
  Calls prog 61 #[.string s] w fun e w'=>e = .returned (.bool (Dm s.data.toList))∧Fr [] w w':=by
 by_cases h0:s.data.toList=[]
 ·have e0:s.toList.isEmpty=true:=by rw[ByteArray.toList_eq,h0];rfl
  have e1:s.toList=[]:=by rw[ByteArray.toList_eq,h0]
  rw[h0];go_enter func61,ntmps61;go_wp2_with fail;go_ret;exact⟨rfl,Fr.refl _ _⟩
 ·have e1:¬ s.toList=[]:=by rw[ByteArray.toList_eq];exact h0
  have e0:s.toList.isEmpty=false:=by rw[ByteArray.toList_eq];cases h:s.data.toList with|nil=>exact absurd h h0|cons _ _=>rfl
  have hp:0<s.size:=by rw[← Ba];exact List.length_pos_iff.2 h0
  have hd:Dm s.data.toList=(Cf s[0]&&As (95::s.data.toList)):=by
   have h1:s.data.toList=s[0]::s.data.toList.drop 1:=by
    have:=C9 s 0 hp;simpa using this
   rw[h1];rfl
  have hcat:(⟨#[95]⟩++s:ByteArray).data.toList=95::s.data.toList:=by simp[ByteArray.data_append]
  have cN:=fun w hE=>Ew (⟨#[95]⟩++s) (by rw[← Ba,hcat,Lc',Ba];omega) w hE
  rw[hcat] at cN;have CN:=Hz cN;rw[hd];clear hd hcat cN
  have hg:Cf s[0]=(decide (65≤s[0].toNat)&&decide (s[0].toNat≤90)):=by
   unfold Cf;rfl
  by_cases h1:65≤s[0].toNat
  ·by_cases h2:s[0].toNat≤90
   ·have hg:Cf s[0]=true:=by rw[hg];simp[h1,h2]
    rw[hg];go_enter func61,ntmps61;go_wp2_with fail;refine(CN.out _ hE).mono ?_;rintro e w1 ⟨rfl,hf⟩;go_wp2_with fail;go_ret;exact⟨rfl,hf⟩
   ·have hg:Cf s[0]=false:=by rw[hg];simp[h2]
    rw[hg];go_enter func61,ntmps61;go_wp2_with fail;go_ret;exact⟨rfl,Fr.refl _ _⟩
  ·have hg:Cf s[0]=false:=by rw[hg];simp[h1]
   rw[hg];go_enter func61,ntmps61;go_wp2_with fail;go_ret;exact⟨rfl,Fr.refl _ _⟩
theorem Ym{k n:Int}{nl:Nat}{h:Ky}(hh:Bt k n nl=some h):(k=19∧1≤n∧n≤21)∨k=1∨k=6∨k=2∨k=4∨k=3∨k=5∨k=7∨k=14∨k=15∨k=8∨k=20∨k=21∨k=22∨k=9∨k=10∨k=13∨k=11∨k=12∨k=16∨k=17∨k=18:=by
 exact Classical.byContradiction fun hn=>by
  have:Bt k n nl=none:=by
   unfold Bt
   repeat rw[if_neg (by omega)]
  rw[this] at hh;cases hh
theorem none_of{k n:Int}{nl:Nat}(hh:Bt k n nl=none):¬ (k=19∧1≤n∧n≤21)∧k≠1∧k≠6∧k≠2∧k≠4∧k≠3∧k≠5∧k≠7∧k≠14∧k≠15∧k≠8∧k≠20∧k≠21∧k≠22∧k≠9∧k≠10∧k≠13∧k≠11∧k≠12∧k≠16∧k≠17∧k≠18:=by
 refine⟨?_,?_,?_,?_,?_,?_,?_,?_,?_,?_,?_,?_,?_,?_,?_,?_,?_,?_,?_,?_,?_,?_⟩
 ·rintro⟨rfl,h1,h2⟩;simp[Bt,h1,h2] at hh
 all_goals
  rintro rfl;simp[Bt] at hh
theorem Jl(k a:Int)(nm:LB)(n:Int)(s:LB)(A5 A6 A7:Option Addr)(nl na ma c5 c6 c7:Nat)(h:Ky)(hh:Bt k n nl=some h)(w:World):
  Calls prog 70 #[.agg #[vI k,vI a,vS nm,vI n,vS s,.slice A5 nl c5,.slice A6 na c6,.slice A7 ma c7]] w fun e w'=>e = .returned h.v∧Fr [] w w':=by
 rcases Ym hh with⟨rfl,h1,h2⟩| rfl|rfl|rfl|rfl|rfl|rfl|rfl|rfl|rfl|rfl|rfl|rfl|rfl|rfl|rfl|rfl|rfl|rfl|rfl|rfl|rfl
 ·simp[Bt,h1,h2] at hh;subst hh;have cA:=fun w=>Hz (Zf n h1 h2 w)
  go_enter func70,ntmps70;go_wp2_with fail;refine(cA _).out.mono ?_;rintro e w2 ⟨rfl,rfl⟩;go_wp2_with fail;refine bodyPost_ret (v:=_) ?_ rfl ⟨rfl,by(repeat first|exact Fr.refl _ _|refine Fr.alloc ?_ _|refine Fr.drew ?_|refine Fr.setCell ?_ (.inr (by simp)) _)⟩;simp[results,Tryz.f70,go_sem,Ky.v]
 all_goals
  simp[Bt] at hh;subst hh;go_enter func70,ntmps70;go_wp2_with fail;refine bodyPost_ret (v:=_) ?_ rfl ⟨rfl,by(repeat first|exact Fr.refl _ _|refine Fr.alloc ?_ _|refine Fr.drew ?_|refine Fr.setCell ?_ (.inr (by simp)) _)⟩;simp[results,Tryz.f70,go_sem,Ky.v]
theorem Un(k a:Int)(nm:LB)(n:Int)(s:LB)(A5 A6 A7:Option Addr)(nl na ma c5 c6 c7:Nat)(hh:Bt k n nl=none)(w:World):
  Calls prog 70 #[.agg #[vI k,vI a,vS nm,vI n,vS s,.slice A5 nl c5,.slice A6 na c6,.slice A7 ma c7]] w fun e w'=>e = .panicked fl∧Fr [] w w':=by
 obtain⟨d19,d1,d6,d2,d4,d3,d5,d7,d14,d15,d8,d20,d21,d22,d9,d10,d13,d11,d12,d16,d17,d18⟩:=none_of hh;have z1:(k==1)=false:=by rw[bN];exact d1
 have z6:(k==6)=false:=by rw[bN];exact d6
 have z2:(k==2)=false:=by rw[bN];exact d2
 have z4:(k==4)=false:=by rw[bN];exact d4
 have z3:(k==3)=false:=by rw[bN];exact d3
 have z5:(k==5)=false:=by rw[bN];exact d5
 have z7:(k==7)=false:=by rw[bN];exact d7
 have z14:(k==14)=false:=by rw[bN];exact d14
 have z15:(k==15)=false:=by rw[bN];exact d15
 have z8:(k==8)=false:=by rw[bN];exact d8
 have z20:(k==20)=false:=by rw[bN];exact d20
 have z21:(k==21)=false:=by rw[bN];exact d21
 have z22:(k==22)=false:=by rw[bN];exact d22
 have z9:(k==9)=false:=by rw[bN];exact d9
 have z10:(k==10)=false:=by rw[bN];exact d10
 have z13:(k==13)=false:=by rw[bN];exact d13
 have z11:(k==11)=false:=by rw[bN];exact d11
 have z12:(k==12)=false:=by rw[bN];exact d12
 have z16:(k==16)=false:=by rw[bN];exact d16
 have z17:(k==17)=false:=by rw[bN];exact d17
 have z18:(k==18)=false:=by rw[bN];exact d18
 by_cases z19:k=19
 ·subst z19;by_cases h1:1≤n
  ·have h2:¬ n≤21:=fun h2=>d19 ⟨rfl,h1,h2⟩
   clear d19 hh;go_enter func70,ntmps70;go_wp2_with fail;exact⟨rfl,rfl,by(repeat first|exact Fr.refl _ _|refine Fr.alloc ?_ _|refine Fr.drew ?_|refine Fr.setCell ?_ (.inr (by simp)) _)⟩
  ·clear d19 hh;go_enter func70,ntmps70;go_wp2_with fail;exact⟨rfl,rfl,by(repeat first|exact Fr.refl _ _|refine Fr.alloc ?_ _|refine Fr.drew ?_|refine Fr.setCell ?_ (.inr (by simp)) _)⟩
 ·have z19:(k==19)=false:=by rw[bN];exact z19
  clear d19 hh d1 d6 d2 d4 d3 d5 d7 d14 d15 d8 d20 d21 d22 d9 d10 d13 d11 d12 d16 d17 d18;go_enter func70,ntmps70;go_wp2_with fail;exact⟨rfl,rfl,by(repeat first|exact Fr.refl _ _|refine Fr.alloc ?_ _|refine Fr.drew ?_|refine Fr.setCell ?_ (.inr (by simp)) _)⟩
def EC(w0:World)(ok:Nat→Prop)(P N:Nat):Prop:=∀ (k a:Int)(nm:LB)(n:Int)(s:LB)(ls:List LB)(args:List Ab)(arms:List (Ak×Ab))(A5 A6 A7:Option Addr)(c5 c6 c7:Nat)(rs:List (Nat×Obj))(l:LB)(wr:World),szE (.mk k a nm n s ls args arms)<N→SwE (.mk k a nm n s ls args arms)→
  Aj w0 ok (.mk k a nm n s ls args arms) [vI k,vI a,vS nm,vI n,vS s,.slice A5 ls.length c5,.slice A6 args.length c6,.slice A7 arms.length c7]→WB w0 P rs l wr→l.length+(txE (.mk k a nm n s ls args arms)).length≤70368744177664 →
  Calls prog 38 #[.pointer (some ⟨P,0,none⟩),.agg #[vI k,vI a,vS nm,vI n,vS s,.slice A5 ls.length c5,.slice A6 args.length c6,.slice A7 arms.length c7]] wr (Sd w0 P rs (l++txE (.mk k a nm n s ls args arms)) (Be (.mk k a nm n s ls args arms)))
def PC(w0:World)(ok:Nat→Prop)(P N:Nat):Prop:=∀ (k a:Int)(nm:LB)(n:Int)(s:LB)(ls:List LB)(args:List Ak)(A5 A6:Option Addr)(c5 c6:Nat)(rs:List (Nat×Obj))(l:LB)(wr:World),szP (.mk k a nm n s ls args)<N→SwP (.mk k a nm n s ls args)→
  Bd w0 ok (.mk k a nm n s ls args) [vI k,vI a,vS nm,vI n,vS s,.slice A5 ls.length c5,.slice A6 args.length c6]→WB w0 P rs l wr→l.length+(txP (.mk k a nm n s ls args)).length≤70368744177664 →
  Calls prog 31 #[.pointer (some ⟨P,0,none⟩),.agg #[vI k,vI a,vS nm,vI n,vS s,.slice A5 ls.length c5,.slice A6 args.length c6]] wr (Sd w0 P rs (l++txP (.mk k a nm n s ls args)) (Ct (.mk k a nm n s ls args)))
theorem cellAt{wr w:World}{g j:Nat}{v:Value}(hg:g<wr.heap.size)(hv:wr.cell? ⟨g,j,none⟩=some v)(hf:Fr [] wr w):w.cell? ⟨g,j,none⟩=some v:=(hf.cell (p:=⟨g,j,none⟩) hg (fun x=>by cases x)).trans hv
theorem Ri(w0:World)(P:Nat)(rs:List (Nat×Obj))(l x:LB)(i:Nat)(hi:i≤1099511627776)(hx:x.length≤65536)(hl:l.length≤70368744177664)(wr:World)(hV:Dx w0)(h:WB w0 P rs l wr):
  Calls prog 65 #[.pointer (some ⟨P,0,none⟩),vI i,vS x] wr (Sd w0 P rs (l++((if decide (i=0)=true then [] else [44,32])++(x++[32,61,32]))) (As x)):=by
 have cN:=fun w hE=>Hz (Ew ⟨x.toArray⟩ (by simp[ByteArray.size];omega) w hE)
 rw[(show(⟨x.toArray⟩:ByteArray).data.toList=x from rfl)] at cN
 cases hn:As x with
 | false =>
  generalize l++((if decide (i=0)=true then [] else [44,32])++(x++[32,61,32]))=M;rw[hn] at cN;go_enter func65,ntmps65;go_wp2_with fail;refine(cN _ (hV.fr h.frame)).out.mono ?_;rintro e w1 ⟨rfl,hf⟩;go_wp2_with fail;refine(must_no _).mono ?_;rintro e w2 ⟨rfl,hf2⟩;go_wp2_with fail
  exact⟨rfl,Sd.gave rfl ((h.frame.trans hf).trans hf2)⟩
 | true =>
  rw[hn] at cN;by_cases h0:i=0
  ·subst h0;rw[show l++((if decide ((0:Nat)=0)=true then ([]:LB)else [44,32])++(x++[32,61,32]))=l++(x++[32,61,32]) by simp];go_enter func65,ntmps65;go_wp2_with fail;refine(cN _ (hV.fr h.frame)).out.mono ?_;rintro e w1 ⟨rfl,hf⟩;replace h:=h.fr hf;go_wp2_with fail;refine(must_yes _).mono ?_;rintro e w2 ⟨rfl,rfl⟩;go_wp2_with fail;refine(h.add2 x [32,61,32] _ (by simp;omega)).mono ?_;rintro e w2 ⟨rfl,hb⟩;go_wp2_with fail
   go_end0
   exact Sd.done rfl rfl hb
  ·rw[show l++((if decide (i=0)=true then ([]:LB)else [44,32])++(x++[32,61,32]))=(l++[44,32])++(x++[32,61,32]) by simp[h0]];have q0:(0:Int)<(i:Int):=by omega
   go_enter func65,ntmps65;go_wp2_with fail;refine(cN _ (hV.fr h.frame)).out.mono ?_;rintro e w1 ⟨rfl,hf⟩;replace h:=h.fr hf;go_wp2_with fail;refine(must_yes _).mono ?_;rintro e w2 ⟨rfl,rfl⟩;go_wp2_with fail;refine(h.add1 [44,32] _ (by simp;omega)).mono ?_;rintro e w2 ⟨rfl,h⟩;go_wp2_with fail;refine(h.add2 x [32,61,32] _ (by simp;omega)).mono ?_;rintro e w2 ⟨rfl,hb⟩;go_wp2_with fail
   go_end0
   exact Sd.done rfl rfl hb
theorem row_any(w0:World)(ok:Nat→Prop)(P N:Nat)(hE:EC w0 ok P N)(args:List Ab)(A6:Option Addr)(cc6:Nat)(cs:Nat→List Value)(h6:Dy w0 ok (.slice A6 args.length cc6) args.length 8 cs)(e6:∀ (i:Nat)(x:Ab),args[i]?=some x→Aj w0 ok x (cs i))(hN:B1 args<N)(hs:Im args)(hal:args.length≤1000)(texts:List LB)(q ct:Nat)(rs:List (Nat×Obj))(l:LB)(wr:World)(hb:WB w0 P rs l wr)(hq:(q,Nu texts) ∈ rs)(hlen:l.length+(E2 texts (Az args)).length≤70368744177664)(hta:args.length≤texts.length)(htl:texts.length≤1000):
  Calls prog 106 #[.pointer (some ⟨P,0,none⟩),.slice A6 args.length cc6,.slice (some ⟨q,0,none⟩) texts.length ct] wr (Sd w0 P rs (l++E2 texts (Az args)) (Au args)):=by
 have IH:=Hz hE;have H6:=Hz h6;have E6:Hid (∀ (i:Nat) (x:Ab),args[i]?=some x→Aj w0 ok x (cs i)):=Hz e6;have HN:=Hz hN;have HS:=Hz hs;have HQ:=Hz hq;rw[← La'] at hlen
 generalize hW:l++E2 texts (Az args)=M at *
 generalize hO:Au args=O;have HW:Hid (l++E2 (texts.drop 0) (Az (args.drop 0))=M):=Hz hW;have HO:Hid (Au (args.drop 0)=O):=Hz hO;have HL:=Hz hlen;have qa:(args.length:Int)≤1000:=by omega
 have qt:(texts.length:Int)≤1000:=by omega
 clear hE h6 e6 hN hs hq hW hO hlen;go_enter func106,ntmps106;go_wp2_with fail
 go_loopw [10] (fun iv wx=>∃ (i:Nat) (m:LB),iv=vI i∧i≤texts.length∧WB w0 P rs m wx∧Hid (m++E2 (texts.drop i) (Az (args.drop i))=M)∧Hid (Au (args.drop i)=O)) (fun iv wx=>texts.length-(intOf iv).toNat)
 case atStart=>exact⟨0,l,rfl,by omega,hb,HW,HO⟩
 case round =>
  obtain⟨i,m,rfl,hi,hb,HW,HO⟩:=hrel;by_cases hlt:i<texts.length
  ·obtain⟨t,ht⟩:∃ t,texts[i]?=some t:=⟨texts[i],Lg' hlt⟩
   have t0:=Y5 (hb.at HQ.out) ht;have HT:=Hz ht;clear ht;have q1:(0:Int)≤(i:Int):=by omega
   have q2:(i:Int)<(texts.length:Int):=by omega
   by_cases hla:i<args.length
   ·obtain⟨x,hx⟩:∃ x,args[i]?=some x:=⟨args[i],Lg' hla⟩
    have hw:=HW.out;rw[rowT_in HT.out hx] at hw;have ho:=HO.out;rw[Lj hx] at ho;have c1:=hb.add1 t 1 (by have:=Ax hw HL.out;omega);have HW1:=Hz (Aw hw);have HO1:=Hz ho;have HX:=Hz hx;clear hw ho hx;have q3:(i:Int)<(args.length:Int):=by omega
    go_wp2_with fail;refine c1.mono ?_;rintro e w2 ⟨rfl,hb⟩;clear c1 t0;obtain⟨g,o,rfl,hg,hc⟩:=H6.out.elem hb.frame hla;obtain⟨k2,a2,nm2,n2,s2,ls2,args2,arms2,A52,c52,A62,c62,A72,c72,rfl,hx2,x0,x1,x2,x3,x4,x5,x6,x7⟩:=(E6.out i _ HX.out).told hc;have c2:=IH.out k2 a2 nm2 n2 s2 ls2 args2 arms2 A52 A62 A72 c52 c62 c72 rs _ _ (by have:=Et HX.out;have:=HN.out;omega) (HS.out.get HX.out) hx2 hb (by have:=Ax HW1.out HL.out;omega);have C2:=Hz c2;clear c2 hx2 hc;go_wp2_with fail;refine C2.out.mono ?_;rintro e w3 (⟨hok,rfl,hb⟩| ⟨hok,rfl,hf⟩)
    ·clear C2 x0 x1 x2 x3 x4 x5 x6 x7;have HO2:=Hz HO1.out;rw[hok,Bool.true_and] at HO2;have HW2:=Hz (Aw HW1.out);clear hok;go_wp2_with fail
     go_roundw
     case rel=>exact⟨i+1,_,by simp,by omega,hb,HW2,HO2⟩
     case measure=>simp[intOf];omega
    ·go_wp2_with fail;exact⟨rfl,Sd.gave (by rw[← HO1.out,hok];rfl) hf⟩
   ·have hw:=HW.out;rw[rowT_past HT.out (by omega)] at hw;have ho:=HO.out;rw[Iu (by omega)] at ho;have c1:=hb.add1 t 1 (by have:=Ax hw HL.out;omega);have HW1:=Hz (Aw hw);have HO1:Hid (Au (args.drop (i+1))=O):=Hz (by rw[Iu (by omega)];exact ho);clear hw ho;have q3:(args.length:Int)≤(i:Int):=by omega
    go_wp2_with fail;refine c1.mono ?_;rintro e w2 ⟨rfl,hb⟩;clear c1 t0;go_wp2_with fail
    go_roundw
    case rel=>exact⟨i+1,_,by simp,by omega,hb,HW1,HO1⟩
    case measure=>simp[intOf];omega
  ·have ei:i=texts.length:=by omega
   subst ei;have hw:=HW.out;rw[rowT_end (Nr' _)] at hw;have ho:=HO.out;rw[Iu (by omega)] at ho;go_wp2_with fail
   go_end0
   exact Sd.done ho.symm (Cm hw) hb
end
theorem Id{α:Type}:∀ {l:List α},l.length=1→∃ a,l=[a]
 | [a],_=>⟨a,rfl⟩
theorem Ib{α:Type}:∀ {l:List α},l.length=2→∃ a b,l=[a,b]
 | [a,b],_=>⟨a,b,rfl⟩
theorem trio_of{α:Type}:∀ {l:List α},l.length=3→∃ a b c,l=[a,b,c]
 | [a,b,c],_=>⟨a,b,c,rfl⟩
section
attribute [local go_sem ↓] Go.wp_at_zero Go.wp_at_succ
theorem Fp{α:Type}{l:List α}(h:¬ l=[]):((l.length:Int)==0)=false:=by
 cases l with
 | nil=>exact absurd rfl h
 | cons x l=>simp only[Lc',bN];omega
theorem Uw{k:Int}{nl:Nat}{h:Ky}(hh:Ee k nl=some h):k=1∨k=2∨k=3∨k=4∨k=5∨k=6∨k=7∨k=8∨k=9 :=
 Classical.byContradiction fun hn=>by
  have:Ee k nl=none:=by
   unfold Ee
   repeat rw[if_neg (by omega)]
  rw[this] at hh;cases hh
theorem pat_none(w0:World)(P:Nat)(k a:Int)(nm:LB)(n:Int)(s:LB)(ls:List LB)(args:List Ak)(A5 A6:Option Addr)(c5 c6:Nat)(rs:List (Nat×Obj))(l M:LB)(wr:World)(hh:Ee k ls.length=none)(hb:WB w0 P rs l wr):
  Calls prog 31 #[.pointer (some ⟨P,0,none⟩),.agg #[vI k,vI a,vS nm,vI n,vS s,.slice A5 ls.length c5,.slice A6 args.length c6]] wr (Sd w0 P rs M false):=by
 have hd:k≠1∧k≠2∧k≠3∧k≠4∧k≠5∧k≠6∧k≠7∧k≠8∧k≠9:=by refine⟨?_,?_,?_,?_,?_,?_,?_,?_,?_⟩<;> rintro rfl <;> simp[Ee] at hh
 obtain⟨d1,d2,d3,d4,d5,d6,d7,d8,d9⟩:=hd;have z1:(k==1)=false:=by rw[bN];exact d1
 have z2:(k==2)=false:=by rw[bN];exact d2
 have z3:(k==3)=false:=by rw[bN];exact d3
 have z4:(k==4)=false:=by rw[bN];exact d4
 have z5:(k==5)=false:=by rw[bN];exact d5
 have z6:(k==6)=false:=by rw[bN];exact d6
 have z7:(k==7)=false:=by rw[bN];exact d7
 have z8:(k==8)=false:=by rw[bN];exact d8
 have z9:(k==9)=false:=by rw[bN];exact d9
 clear hh d1 d2 d3 d4 d5 d6 d7 d8 d9;go_enter func31,ntmps31;go_wp2_with fail;refine(must_no _).mono ?_;rintro e w1 ⟨rfl,hf⟩;go_wp2_with fail;exact⟨rfl,Sd.gave rfl (hb.frame.trans ((show Fr [] wr _ by(repeat first|exact Fr.refl _ _|refine Fr.alloc ?_ _|refine Fr.drew ?_|refine Fr.setCell ?_ (.inr (by simp)) _)).trans hf))⟩
theorem pat_wrong(w0:World)(P:Nat)(k a:Int)(nm:LB)(n:Int)(s:LB)(ls:List LB)(args:List Ak)(A5 A6:Option Addr)(c5 c6:Nat)(rs:List (Nat×Obj))(l M:LB)(wr:World)(h:Ky)(hh:Ee k ls.length=some h)(hr:Ah h nm n s ls.length args.length 0=false)(hb:WB w0 P rs l wr):
  Calls prog 31 #[.pointer (some ⟨P,0,none⟩),.agg #[vI k,vI a,vS nm,vI n,vS s,.slice A5 ls.length c5,.slice A6 args.length c6]] wr (Sd w0 P rs M false):=by
 rcases Uw hh with rfl|rfl|rfl|rfl|rfl|rfl|rfl|rfl|rfl
 all_goals(simp[Ee] at hh;subst hh)
 by_cases t:nm=[]
 case' neg=>have e0:(nm==[])=false:=by rw[bN];exact t
 rotate_left
 subst t;by_cases t:n=0
 case' neg=>have e0:(n==0)=false:=by rw[bN];exact t
 rotate_left
 subst t
 by_cases t:s=[]
 case' neg=>have e0:(s==[])=false:=by rw[bN];exact t
 rotate_left
 subst t
 by_cases t:ls=[]
 case' neg=>have e0:((ls.length:Int)==0)=false:=Fp t
 rotate_left
 subst t;have e0:((args.length:Int)==0)=false:=Fp (fun t=>by subst t;simp[Ah] at hr)
 rotate_left
 by_cases t:n=0
 case' neg=>have e0:(n==0)=false:=by rw[bN];exact t
 rotate_left
 subst t
 by_cases t:s=[]
 case' neg=>have e0:(s==[])=false:=by rw[bN];exact t
 rotate_left
 subst t
 by_cases t:ls=[]
 case' neg=>have e0:((ls.length:Int)==0)=false:=Fp t
 rotate_left
 subst t;have e0:((args.length:Int)==0)=false:=Fp (fun t=>by subst t;simp[Ah] at hr)
 rotate_left
 by_cases t:nm=[]
 case' neg=>have e0:(nm==[])=false:=by rw[bN];exact t
 rotate_left
 subst t
 by_cases t:s=[]
 case' neg=>have e0:(s==[])=false:=by rw[bN];exact t
 rotate_left
 subst t
 by_cases t:ls=[]
 case' neg=>have e0:((ls.length:Int)==0)=false:=Fp t
 rotate_left
 subst t;have e0:((args.length:Int)==0)=false:=Fp (fun t=>by subst t;simp[Ah] at hr)
 rotate_left
 by_cases t:nm=[]
 case' neg=>have e0:(nm==[])=false:=by rw[bN];exact t
 rotate_left
 subst t;by_cases t:n=0
 case' neg=>have e0:(n==0)=false:=by rw[bN];exact t
 rotate_left
 subst t
 by_cases t:ls=[]
 case' neg=>have e0:((ls.length:Int)==0)=false:=Fp t
 rotate_left
 subst t;have e0:((args.length:Int)==0)=false:=Fp (fun t=>by subst t;simp[Ah] at hr)
 rotate_left
 by_cases t:nm=[]
 case' neg=>have e0:(nm==[])=false:=by rw[bN];exact t
 rotate_left
 subst t
 by_cases t:s=[]
 case' neg=>have e0:(s==[])=false:=by rw[bN];exact t
 rotate_left
 subst t
 by_cases t:ls=[]
 case' neg=>have e0:((ls.length:Int)==0)=false:=Fp t
 rotate_left
 subst t;have e0:((args.length:Int)==0)=false:=Fp (fun t=>by subst t;simp[Ah] at hr)
 rotate_left
 by_cases t:nm=[]
 case' neg=>have e0:(nm==[])=false:=by rw[bN];exact t
 rotate_left
 subst t;by_cases t:n=0
 case' neg=>have e0:(n==0)=false:=by rw[bN];exact t
 rotate_left
 subst t
 by_cases t:s=[]
 case' neg=>have e0:(s==[])=false:=by rw[bN];exact t
 rotate_left
 subst t
 by_cases t:ls=[]
 case' neg=>have e0:((ls.length:Int)==0)=false:=Fp t
 rotate_left
 subst t;have e0:((args.length:Int)==0)=false:=Fp (fun t=>by subst t;simp[Ah] at hr)
 rotate_left
 by_cases t:n=0
 case' neg=>have e0:(n==0)=false:=by rw[bN];exact t
 rotate_left
 subst t
 by_cases t:s=[]
 case' neg=>have e0:(s==[])=false:=by rw[bN];exact t
 rotate_left
 subst t
 by_cases t:ls=[]
 case' neg=>have e0:((ls.length:Int)==0)=false:=Fp t
 rotate_left
 subst t;have e0:((args.length:Int)==0)=false:=Fp (fun t=>by subst t;simp[Ah] at hr)
 rotate_left
 by_cases t:n=0
 case' neg=>have e0:(n==0)=false:=by rw[bN];exact t
 rotate_left
 subst t
 by_cases t:s=[]
 case' neg=>have e0:(s==[])=false:=by rw[bN];exact t
 rotate_left
 subst t
 by_cases t:ls=[]
 case' neg=>have e0:((ls.length:Int)==0)=false:=Fp t
 rotate_left
 subst t;have e0:((args.length:Int)==1)=false:=by rw[bN];intro t;exact absurd hr (by simp[Ah];omega)
 rotate_left
 by_cases t:nm=[]
 case' neg=>have e0:(nm==[])=false:=by rw[bN];exact t
 rotate_left
 subst t;by_cases t:n=0
 case' neg=>have e0:(n==0)=false:=by rw[bN];exact t
 rotate_left
 subst t
 by_cases t:s=[]
 case' neg=>have e0:(s==[])=false:=by rw[bN];exact t
 rotate_left
 subst t;have e0:((args.length:Int)==(ls.length:Int))=false:=by rw[bN];intro t;exact absurd hr (by simp[Ah];omega)
 rotate_left
 all_goals
  clear hr;go_enter func31,ntmps31;go_wp2_with fail
  try(refine(must_yes _).mono ?_;rintro e w9 ⟨rfl,rfl⟩;go_wp2_with fail)
  try(go_region;go_wp2_with fail)
  refine(must_no _).mono ?_;rintro e w1 ⟨rfl,hf⟩;go_wp2_with fail;exact⟨rfl,Sd.gave rfl (hb.frame.trans ((show Fr [] wr _ by(repeat first|exact Fr.refl _ _|refine Fr.alloc ?_ _|refine Fr.drew ?_|refine Fr.setCell ?_ (.inr (by simp)) _)).trans hf))⟩
theorem wpat_step(w0:World)(ok:Nat→Prop)(P N:Nat)(hV:Dx w0)(hB:N≤1099511627775)(ih:PC w0 ok P N):PC w0 ok P (N+1):=by
 intro k a nm n s ls args A5 A6 c5 c6 rs l wr hN hs hx hb hl;rw[← La'] at hl
 cases hh:Ee k ls.length with
 | none =>
  rw[mayP_none hh]
  exact pat_none w0 P k a nm n s ls args A5 A6 c5 c6 rs l _ wr hh hb
 | some h =>
 cases hr:Ah h nm n s ls.length args.length 0 with
 | false =>
  rw[Xg hh hr]
  exact pat_wrong w0 P k a nm n s ls args A5 A6 c5 c6 rs l _ wr h hh hr hb
 | true =>
 have HO:=Hz (Xf (a:=a) (nm:=nm) (s:=s) (pats:=args) hh hr).symm
 obtain⟨M,hM⟩:∃ M,l++txP (.mk k a nm n s ls args)=M:=⟨_,rfl⟩
 obtain⟨O,hO⟩:∃ O,Ct (.mk k a nm n s ls args)=O:=⟨_,rfl⟩
 rw[hM] at hl ⊢;rw[hO] at HO ⊢;have HM:=Hz hM;have HL:=Hz hl;have HV:=Hz hV;have IH:=Hz ih;obtain⟨⟨hs1,hs2,hs3,hs4⟩,hs5⟩:=hs;clear hM hO hl hV ih;by_cases t1:k=1
 ·subst t1;simp[Ee] at hh;subst hh;obtain⟨rfl,rfl,rfl,rfl,rfl⟩:nm=[]∧n=0∧s=[]∧ls=[]∧args=[]:=by simpa [Ah,and_assoc] using hr
  clear hr;have HW:Hid (l++([95]++[])=M):=Hz (by rw[← HM.out];simp[txP,Mb,Gg]);have HP:Hid (true=O):=Hz (by rw[← HO.out];simp[D9,Db]);have hb0:=hb.new (.cells #[vI 1,vI a,vE,vI 0,vE,.slice A5 0 c5,.slice A6 0 c6] 25);go_enter func31,ntmps31;go_wp2_with fail;refine(must_yes _).mono ?_;rintro e w9 ⟨rfl,rfl⟩;go_wp2_with fail;refine(must_yes _).mono ?_;rintro e w1 ⟨rfl,hw⟩;replace hb:=hb0.fr (w':=w1) (by rw[hw];((repeat first|exact Fr.refl _ _|refine Fr.alloc ?_ _|refine Fr.drew ?_|refine Fr.setCell ?_ (.inr (by simp)) _)));clear hb0 hw
  generalize wr.heap.size=T at *
  obtain⟨⟨l0,l1,l2,l3,l4,l5,l6⟩,_⟩:=Aq (hb.at (Lm' ..));go_wp2_with fail;refine(hb.add1 [95] _ (by have:=Ax HW.out HL.out;omega)).mono ?_;rintro e w5 ⟨rfl,hb⟩;go_wp2_with fail
  go_end0
  exact Sd.done (HP.out.symm) (Cm (Aw HW.out)) hb.drop
 by_cases t6:k=6
 ·subst t6;simp[Ee] at hh;subst hh;obtain⟨rfl,rfl,rfl,rfl,rfl⟩:nm=[]∧n=0∧s=[]∧ls=[]∧args=[]:=by simpa [Ah,and_assoc] using hr
  clear hr;have HW:Hid (l++([40,41]++[])=M):=Hz (by rw[← HM.out];simp[txP,Mb,Gg]);have HP:Hid (true=O):=Hz (by rw[← HO.out];simp[D9,Db]);have hb0:=hb.new (.cells #[vI 6,vI a,vE,vI 0,vE,.slice A5 0 c5,.slice A6 0 c6] 25);go_enter func31,ntmps31;go_wp2_with fail;refine(must_yes _).mono ?_;rintro e w9 ⟨rfl,rfl⟩;go_wp2_with fail;refine(must_yes _).mono ?_;rintro e w1 ⟨rfl,hw⟩;replace hb:=hb0.fr (w':=w1) (by rw[hw];((repeat first|exact Fr.refl _ _|refine Fr.alloc ?_ _|refine Fr.drew ?_|refine Fr.setCell ?_ (.inr (by simp)) _)));clear hb0 hw
  generalize wr.heap.size=T at *
  obtain⟨⟨l0,l1,l2,l3,l4,l5,l6⟩,_⟩:=Aq (hb.at (Lm' ..));go_wp2_with fail;refine(hb.add1 [40,41] _ (by have:=Ax HW.out HL.out;omega)).mono ?_;rintro e w5 ⟨rfl,hb⟩;go_wp2_with fail
  go_end0
  exact Sd.done (HP.out.symm) (Cm (Aw HW.out)) hb.drop
 by_cases t7:k=7
 ·subst t7;simp[Ee] at hh;subst hh;obtain⟨rfl,rfl,rfl,rfl⟩:n=0∧s=[]∧ls=[]∧args=[]:=by simpa [Ah,and_assoc] using hr
  clear hr;have HW:Hid (l++(nm++[])=M):=Hz (by rw[← HM.out];simp[txP,Mb,Gg]);have HP:Hid (Dm nm=O):=Hz (by rw[← HO.out];simp[D9,Db]);have cN:=fun w hE=>Hz (Kl ⟨nm.toArray⟩ (by simp[ByteArray.size];omega) w hE)
  rw[(show(⟨nm.toArray⟩:ByteArray).data.toList=nm from rfl)] at cN;have hb0:=hb.new (.cells #[vI 7,vI a,vS nm,vI 0,vE,.slice A5 0 c5,.slice A6 0 c6] 25);go_enter func31,ntmps31;go_wp2_with fail;refine(must_yes _).mono ?_;rintro e w1 ⟨rfl,hw⟩;replace hb:=hb0.fr (w':=w1) (by rw[hw];((repeat first|exact Fr.refl _ _|refine Fr.alloc ?_ _|refine Fr.drew ?_|refine Fr.setCell ?_ (.inr (by simp)) _)));clear hb0 hw
  generalize wr.heap.size=T at *
  obtain⟨⟨l0,l1,l2,l3,l4,l5,l6⟩,_⟩:=Aq (hb.at (Lm' ..));go_wp2_with fail;refine(cN _ (HV.out.fr hb.frame)).out.mono ?_;rintro e w2 ⟨rfl,hf⟩;replace hb:=hb.fr hf;clear hf;clear l0 l1 l2 l3 l4 l5 l6;obtain⟨⟨l0,l1,l2,l3,l4,l5,l6⟩,_⟩:=Aq (hb.at (Lm' ..))
  cases hn:Dm nm with
  | false =>
   go_wp2_with fail;refine(must_no _).mono ?_;rintro e w6 ⟨rfl,hf⟩;go_wp2_with fail
   exact⟨rfl,Sd.gave (by rw[← HP.out,hn]) (hb.frame.trans hf)⟩
  | true =>
   go_wp2_with fail;refine(must_yes _).mono ?_;rintro e w6 ⟨rfl,rfl⟩;go_wp2_with fail;refine(hb.add1 nm _ (by have:=Ax HW.out HL.out;omega)).mono ?_;rintro e w5 ⟨rfl,hb⟩;go_wp2_with fail
   go_end0
   exact Sd.done (by rw[← HP.out,hn]) (Cm (Aw HW.out)) hb.drop
 by_cases t2:k=2
 ·subst t2;simp[Ee] at hh;subst hh;obtain⟨rfl,rfl,rfl,rfl⟩:n=0∧s=[]∧ls=[]∧args=[]:=by simpa [Ah,and_assoc] using hr
  clear hr;have HW:Hid (l++(nm++[])=M):=Hz (by rw[← HM.out];simp[txP,Mb,Gg]);have HP:Hid ((As nm && !(nm==[95]))=O):=Hz (by rw[← HO.out];simp[D9,Db]);have cN:=fun w hE=>Hz (Ew ⟨nm.toArray⟩ (by simp[ByteArray.size];omega) w hE)
  rw[(show(⟨nm.toArray⟩:ByteArray).data.toList=nm from rfl)] at cN;have hb0:=hb.new (.cells #[vI 2,vI a,vS nm,vI 0,vE,.slice A5 0 c5,.slice A6 0 c6] 25);go_enter func31,ntmps31;go_wp2_with fail;refine(must_yes _).mono ?_;rintro e w1 ⟨rfl,hw⟩;replace hb:=hb0.fr (w':=w1) (by rw[hw];((repeat first|exact Fr.refl _ _|refine Fr.alloc ?_ _|refine Fr.drew ?_|refine Fr.setCell ?_ (.inr (by simp)) _)));clear hb0 hw
  generalize wr.heap.size=T at *
  obtain⟨⟨l0,l1,l2,l3,l4,l5,l6⟩,_⟩:=Aq (hb.at (Lm' ..));go_wp2_with fail;refine(cN _ (HV.out.fr hb.frame)).out.mono ?_;rintro e w2 ⟨rfl,hf⟩;replace hb:=hb.fr hf;clear hf;clear l0 l1 l2 l3 l4 l5 l6;obtain⟨⟨l0,l1,l2,l3,l4,l5,l6⟩,_⟩:=Aq (hb.at (Lm' ..))
  cases hn:As nm with
  | false =>
   go_wp2_with fail;refine(must_no _).mono ?_;rintro e w6 ⟨rfl,hf⟩;go_wp2_with fail
   exact⟨rfl,Sd.gave (by rw[← HP.out,hn];rfl) (hb.frame.trans hf)⟩
  | true =>
  cases h9:nm==[95] with
  | true =>
   have h9':nm=[95]:=by simpa using h9
   go_wp2_with fail;refine(must_no _).mono ?_;rintro e w6 ⟨rfl,hf⟩;go_wp2_with fail
   exact⟨rfl,Sd.gave (by rw[← HP.out,h9];simp) (hb.frame.trans hf)⟩
  | false =>
   go_wp2_with fail;refine(must_yes _).mono ?_;rintro e w6 ⟨rfl,rfl⟩;go_wp2_with fail;refine(hb.add1 nm _ (by have:=Ax HW.out HL.out;omega)).mono ?_;rintro e w5 ⟨rfl,hb⟩;go_wp2_with fail
   go_end0
   exact Sd.done (by rw[← HP.out,hn,h9];rfl) (Cm (Aw HW.out)) hb.drop
 by_cases t4:k=4
 ·subst t4;simp[Ee] at hh;subst hh;obtain⟨rfl,rfl,rfl,rfl⟩:nm=[]∧n=0∧ls=[]∧args=[]:=by simpa [Ah,and_assoc] using hr
  clear hr;have HW:Hid (l++(C7 s++[])=M):=Hz (by rw[← HM.out];simp[txP,Mb,Gg]);have HP:Hid (true=O):=Hz (by rw[← HO.out];simp[D9,Db]);have cQ:=fun w=>Hz (Mi ⟨s.toArray⟩ (by simp[ByteArray.size];omega) w)
  rw[(show(⟨s.toArray⟩:ByteArray).data.toList=s from rfl)] at cQ;have hb0:=hb.new (.cells #[vI 4,vI a,vE,vI 0,vS s,.slice A5 0 c5,.slice A6 0 c6] 25);go_enter func31,ntmps31;go_wp2_with fail;refine(must_yes _).mono ?_;rintro e w1 ⟨rfl,hw⟩;replace hb:=hb0.fr (w':=w1) (by rw[hw];((repeat first|exact Fr.refl _ _|refine Fr.alloc ?_ _|refine Fr.drew ?_|refine Fr.setCell ?_ (.inr (by simp)) _)));clear hb0 hw
  generalize wr.heap.size=T at *
  obtain⟨⟨l0,l1,l2,l3,l4,l5,l6⟩,_⟩:=Aq (hb.at (Lm' ..));go_wp2_with fail;refine(cQ _).out.mono ?_;rintro e w2 ⟨rfl,hf⟩;replace hb:=hb.fr hf;clear hf l0 l1 l2 l3 l4 l5 l6;go_wp2_with fail;refine(hb.add1 (C7 s) _ (by have:=Ax HW.out HL.out;omega)).mono ?_;rintro e w5 ⟨rfl,hb⟩;go_wp2_with fail
  go_end0
  exact Sd.done (HP.out.symm) (Cm (Aw HW.out)) hb.drop
 by_cases t5:k=5
 ·subst t5;simp[Ee] at hh;subst hh;obtain⟨rfl,rfl,rfl,rfl⟩:nm=[]∧s=[]∧ls=[]∧args=[]:=by simpa [Ah,and_assoc] using hr
  clear hr;have HW:Hid (l++(Fs n++[])=M):=Hz (by rw[← HM.out];simp[txP,Mb,Gg]);have HP:Hid ((n==0||n==1)=O):=Hz (by rw[← HO.out];simp[D9,Db]);have hb0:=hb.new (.cells #[vI 5,vI a,vE,vI n,vE,.slice A5 0 c5,.slice A6 0 c6] 25);go_enter func31,ntmps31;go_wp2_with fail;refine(must_yes _).mono ?_;rintro e w1 ⟨rfl,hw⟩;replace hb:=hb0.fr (w':=w1) (by rw[hw];((repeat first|exact Fr.refl _ _|refine Fr.alloc ?_ _|refine Fr.drew ?_|refine Fr.setCell ?_ (.inr (by simp)) _)));clear hb0 hw
  generalize wr.heap.size=T at *
  obtain⟨⟨l0,l1,l2,l3,l4,l5,l6⟩,_⟩:=Aq (hb.at (Lm' ..));go_wp2_with fail
  cases hn:(n==0||n==1)with
  | false =>
   have cT:=Hz (fun w=>Wa n hn w);rw[hn] at HP;clear hn;refine(cT.out _).mono ?_;rintro e w6 ⟨rfl,hf⟩;go_wp2_with fail
   exact⟨rfl,Sd.gave HP.out.symm (hb.frame.trans hf)⟩
  | true =>
   have cT:=Hz (fun w=>R0 n hn w);rw[hn] at HP;clear hn;refine(cT.out _).mono ?_;rintro e w5 ⟨rfl,rfl⟩;go_wp2_with fail;refine(hb.add1 (Fs n) _ (by have:=Ax HW.out HL.out;omega)).mono ?_;rintro e w5 ⟨rfl,hb⟩;go_wp2_with fail
   go_end0
   exact Sd.done (HP.out.symm) (Cm (Aw HW.out)) hb.drop
 by_cases t3:k=3
 ·subst t3;simp[Ee] at hh;subst hh;obtain⟨rfl,rfl,rfl,rfl⟩:nm=[]∧s=[]∧ls=[]∧args=[]:=by simpa [Ah,and_assoc] using hr
  clear hr;have HW:Hid (l++(Lib.itoa n++[])=M):=Hz (by rw[← HM.out];simp[txP,Mb,Gg]);have HP:Hid ((decide (-Ea≤n)&&decide (n≤Ea))=O):=Hz (by rw[← HO.out];simp[D9,Db]);have cT:=fun w hE=>Hz (Tq n hs2.1 hs2.2 w hE)
  clear hs2;have hc:(-Ea≤n∧n≤Ea∧O=true)∨(-Ea≤n∧decide (n≤4611686018427387903)=false∧O=false)∨(¬ -Ea≤n∧O=false):=by rw[← HP.out];by_cases h3:-Ea≤n <;> by_cases h4:n≤Ea <;> simp[h3,h4] <;> unfold Ea at h4 <;> omega
  unfold Ea at hc;clear HP HO
  rcases hc with⟨h3,h4,rfl⟩| ⟨h3,h4,rfl⟩| ⟨h3,rfl⟩
  all_goals
   have hb0:=hb.new (.cells #[vI 3,vI a,vE,vI n,vE,.slice A5 0 c5,.slice A6 0 c6] 25);go_enter func31,ntmps31;go_wp2_with fail;refine(must_yes _).mono ?_;rintro e w1 ⟨rfl,hw⟩;replace hb:=hb0.fr (w':=w1) (by rw[hw];((repeat first|exact Fr.refl _ _|refine Fr.alloc ?_ _|refine Fr.drew ?_|refine Fr.setCell ?_ (.inr (by simp)) _)));clear hb0 hw
   generalize wr.heap.size=T at *
   obtain⟨⟨l0,l1,l2,l3,l4,l5,l6⟩,_⟩:=Aq (hb.at (Lm' ..));go_wp2_with fail
  ·refine(must_yes _).mono ?_;rintro e w6 ⟨rfl,rfl⟩;go_wp2_with fail;refine(cT _ (HV.out.fr hb.frame).env).out.mono ?_;rintro e w2 ⟨rfl,hf⟩;replace hb:=hb.fr hf;clear hf l0 l1 l2 l3 l4 l5 l6;go_wp2_with fail;refine(hb.add1 (Lib.itoa n) _ (by have:=Ax HW.out HL.out;omega)).mono ?_;rintro e w5 ⟨rfl,hb⟩;go_wp2_with fail
   go_end0
   exact Sd.done (rfl) (Cm (Aw HW.out)) hb.drop
  all_goals
   refine(must_no _).mono ?_;rintro e w6 ⟨rfl,hf⟩;go_wp2_with fail;exact⟨rfl,Sd.gave (rfl) (hb.frame.trans hf)⟩
 by_cases t8:k=8
 ·subst t8;simp[Ee] at hh;subst hh;obtain⟨rfl,rfl,rfl,t⟩:n=0∧s=[]∧ls=[]∧args.length=1:=by simpa [Ah,and_assoc] using hr
  clear hr;obtain⟨x,rfl⟩:=Id t;have HW:Hid (l++(([40,35]++(nm++[32]))++(txP x++([41]++[])))=M):=Hz (by rw[← HM.out];simp[txP,Mb,Gg]);have HP:Hid ((Dm nm&&Ct x)=O):=Hz (by rw[← HO.out];simp[D9,Db]);rw[show szP _=1+szP x by simp[szP,Ey]] at hN;have HN:=Hz hN;clear hN;have HS:=Hz hs5.1;clear hs5
  cases hx with
  | mk d5 d6 h5 e5 h6 e6 =>
  have H6:=Hz h6;have E6:=Hz (e6 0 x rfl);clear h5 e5 h6 e6;have cN:=fun w hE=>Hz (Kl ⟨nm.toArray⟩ (by simp[ByteArray.size];omega) w hE)
  rw[(show(⟨nm.toArray⟩:ByteArray).data.toList=nm from rfl)] at cN;have hb0:=hb.new (.cells #[vI 8,vI a,vS nm,vI 0,vE,.slice A5 0 c5,.slice A6 1 c6] 25);go_enter func31,ntmps31;go_wp2_with fail;refine(must_yes _).mono ?_;rintro e w1 ⟨rfl,hw⟩;replace hb:=hb0.fr (w':=w1) (by rw[hw];((repeat first|exact Fr.refl _ _|refine Fr.alloc ?_ _|refine Fr.drew ?_|refine Fr.setCell ?_ (.inr (by simp)) _)));clear hb0 hw
  generalize wr.heap.size=T at *
  obtain⟨⟨l0,l1,l2,l3,l4,l5,l6⟩,_⟩:=Aq (hb.at (Lm' ..));go_wp2_with fail;refine(cN _ (HV.out.fr hb.frame)).out.mono ?_;rintro e w2 ⟨rfl,hf⟩;replace hb:=hb.fr hf;clear hf;clear l0 l1 l2 l3 l4 l5 l6;obtain⟨⟨l0,l1,l2,l3,l4,l5,l6⟩,_⟩:=Aq (hb.at (Lm' ..))
  cases hn:Dm nm with
  | false =>
   go_wp2_with fail;refine(must_no _).mono ?_;rintro e w6 ⟨rfl,hf⟩;go_wp2_with fail
   exact⟨rfl,Sd.gave (by rw[← HP.out,hn];rfl) (hb.frame.trans hf)⟩
  | true =>
  go_wp2_with fail;refine(must_yes _).mono ?_;rintro e w6 ⟨rfl,rfl⟩;go_wp2_with fail;refine(hb.add3 [40,35] nm [32] _ (by have:=Ax HW.out HL.out;omega)).mono ?_;rintro e w5 ⟨rfl,hb⟩;have HW1:=Hz (Aw HW.out);clear l0 l1 l2 l3 l4 l5 l6;obtain⟨⟨l0,l1,l2,l3,l4,l5,l6⟩,_⟩:=Aq (hb.at (Lm' ..));obtain⟨g,o,hA,hg,hc⟩:=H6.out.elem hb.frame (i:=0) (by simp);cases hA;simp only[Nat.zero_mul,Nat.add_zero] at hc;obtain⟨k2,a2,nm2,n2,s2,ls2,args2,A52,c52,A62,c62,rfl,hx2,x0,x1,x2,x3,x4,x5,x6⟩:=E6.out.told hc;have C2:=Hz (IH.out k2 a2 nm2 n2 s2 ls2 args2 A52 A62 c52 c62 _ _ _ (by have:=HN.out;omega) HS.out hx2 hb (by have:=Ax HW1.out HL.out;omega));clear hc hx2;go_wp2_with fail;refine C2.out.mono ?_;rintro e w3 (⟨hok,rfl,hb⟩| ⟨hok,rfl,hf⟩)
  ·have HW2:=Hz (Aw HW1.out);go_wp2_with fail;refine(hb.add1 [41] _ (by have:=Ax HW2.out HL.out;omega)).mono ?_;rintro e w5 ⟨rfl,hb⟩;go_wp2_with fail
   go_end0
   exact Sd.done (by rw[← HP.out,hn,hok];rfl) (Cm (Aw HW2.out)) hb.drop
  ·go_wp2_with fail;exact⟨rfl,Sd.gave (by rw[← HP.out,hn,hok];rfl) hf⟩
 by_cases t9:k=9
 ·subst t9;simp[Ee] at hh;subst hh;obtain⟨rfl,rfl,rfl,t⟩:nm=[]∧n=0∧s=[]∧args.length=ls.length:=by simpa [Ah,and_assoc] using hr
  clear hr;have HT:=Hz t;have HO2:Hid (((ls.drop 0).all As&&Db (args.drop 0))=O):=Hz (by rw[← HO.out];simp[D9]);replace HO:=HO2;clear HO2;have HW:Hid (l++([123]++(G8 (decide (0=0)) (ls.drop 0) (Gg (args.drop 0))++[125]))=M):=Hz (by rw[← HM.out];simp[txP,Mb]);rw[show szP _=1+Ey args by simp[szP,Ey]] at hN;have HN:=Hz hN;clear hN;have HS:=Hz hs5;have HS4:=Hz hs4;have hal:args.length≤1099511627776:=by have:=Tf args;have:=HN.out;omega
  cases hx with
  | mk d5 d6 h5 e5 h6 e6 =>
  have H5:=Hz h5;have H6:=Hz h6;have E5:Hid (∀ (i:Nat) (x:LB),ls[i]?=some x→d5 i=Of x):=Hz e5;have E6:Hid (∀ (i:Nat) (x:Ak),args[i]?=some x→Bd w0 ok x (d6 i)):=Hz e6;have q9:(args.length:Int)=(ls.length:Int):=by rw[t]
  have q8:(args.length:Int)≤1099511627776:=by omega
  clear h5 e5 h6 e6 hs5 hs4 t;have hb0:=hb.new (.cells #[vI 9,vI a,vE,vI 0,vE,.slice A5 ls.length c5,.slice A6 args.length c6] 25);go_enter func31,ntmps31;go_wp2_with fail
  go_region
  go_wp2_with fail;refine(must_yes _).mono ?_;rintro e w1 ⟨rfl,hw⟩;replace hb:=hb0.fr (w':=w1) (by rw[hw];((repeat first|exact Fr.refl _ _|refine Fr.alloc ?_ _|refine Fr.drew ?_|refine Fr.setCell ?_ (.inr (by simp)) _)));clear hb0 hw
  generalize wr.heap.size=T at *
  obtain⟨⟨l0,l1,l2,l3,l4,l5,l6⟩,_⟩:=Aq (hb.at (Lm' ..));go_wp2_with fail;clear l0 l1 l2 l3 l4 l5 l6;refine(hb.add1 [123] _ (by have:=Ax HW.out HL.out;omega)).mono ?_;rintro e w2 ⟨rfl,hb⟩;have HW0:=Hz (Aw HW.out);obtain⟨⟨l0,l1,l2,l3,l4,l5,l6⟩,_⟩:=Aq (hb.at (Lm' ..));go_wp2_with fail;clear l0 l1 l2 l3 l4 l5 l6;clear HW
  go_loopw [185] (fun iv wx=>∃ (i:Nat) (m:LB),iv=vI i∧i≤args.length∧WB w0 P ((T,.cells #[vI 9,vI a,vE,vI 0,vE,.slice A5 ls.length c5,.slice A6 args.length c6] 25)::rs) m wx∧Hid (m++(G8 (decide (i=0)) (ls.drop i) (Gg (args.drop i))++[125])=M)∧Hid ((((ls.drop i).all As)&&Db (args.drop i))=O)) (fun iv wx=>args.length-(intOf iv).toNat)
  case atStart=>exact⟨0,_,rfl,by omega,hb,HW0,HO⟩
  case round =>
   obtain⟨i,m,rfl,hi,hb,HW,HO⟩:=hrel;clear HW0;by_cases hlt:i<args.length
   ·obtain⟨x,hx⟩:∃ x,args[i]?=some x:=⟨args[i],Lg' hlt⟩
    obtain⟨y,hy⟩:∃ y,ls[i]?=some y:=⟨ls[i]'(by rw[← HT.out];exact hlt),Lg' _⟩
    have hw:m++(((if decide (i=0)=true then [] else [44,32])++(y++[32,61,32]))++(txP x++(G8 (decide (i+1=0)) (ls.drop (i+1)) (Gg (args.drop (i+1)))++[125])))=M:=by rw[← HW.out,rowP_at hy hx];simp[Ls']
    have ho:((As y&&((ls.drop (i+1)).all As))&&(Ct x&&Db (args.drop (i+1))))=O:=by rw[← HO.out,Yd hy,Xh hx]
    have HX:=Hz hx;have HW1:=Hz (Aw hw);have HO1:=Hz ho;have hyl:=HS4.out y (List.mem_of_getElem? hy);obtain⟨g5,o5,rfl,hg5,hc5⟩:=H5.out.elem hb.frame (i:=i) (by rw[← HT.out];exact hlt);have y0:=hc5 0 _ (by rw[E5.out i y hy];rfl);simp only[Nat.mul_one,Nat.add_zero] at y0;obtain⟨g,o,rfl,hg,hc⟩:=H6.out.elem hb.frame hlt;obtain⟨k2,a2,nm2,n2,s2,ls2,args2,A52,c52,A62,c62,rfl,hx2,x0,x1,x2,x3,x4,x5,x6⟩:=(E6.out i _ hx).told hc;have hml:m.length≤70368744177664:=by have:=Ax hw HL.out;omega
    clear hx hy hw ho hc hc5;have q1:(0:Int)≤(i:Int):=by omega
    have q2:(i:Int)<(args.length:Int):=by omega
    have q3:(i:Int)<(ls.length:Int):=by omega
    obtain⟨⟨l0,l1,l2,l3,l4,l5,l6⟩,_⟩:=Aq (hb.at (Lm' ..));have hTw:=Aa (hb.at (Lm' ..));replace hb:=hb.new (.cells #[vI k2,vI a2,vS nm2,vI n2,vS s2,.slice A52 ls2.length c52,.slice A62 args2.length c62] 25);have cL:=fun rz W hW=>Hz (Ri w0 P rz m y i (by omega) hyl hml W HV.out hW)
    go_wp2_with fail
    generalize wr.heap.size=Tx at *
    refine(cL _ _ hb).out.mono ?_;rintro e w3 (⟨hok1,rfl,hb⟩| ⟨hok1,rfl,hf⟩)
    ·clear l0 l1 l2 l3 l4 l5 l6;clear x0 x1 x2 x3 x4 x5 x6 y0 cL;obtain⟨⟨l0,l1,l2,l3,l4,l5,l6⟩,_⟩:=Aq (hb.at (Lm' ..));have C2:=Hz (IH.out k2 a2 nm2 n2 s2 ls2 args2 A52 A62 c52 c62 _ _ _ (by have:=Gz HX.out;have:=HN.out;omega) (HS.out.get HX.out) hx2 hb (by have:=Ax HW1.out HL.out;omega));clear hx2;go_wp2_with fail;refine C2.out.mono ?_;rintro e w4 (⟨hok2,rfl,hb⟩| ⟨hok2,rfl,hf⟩)
     ·have HW2:=Hz (Aw HW1.out);have HO2:=Hz HO1.out;rw[hok1,hok2,Bool.true_and,Bool.true_and] at HO2;clear hok1 hok2 C2 HW1 HO1 HW HO l0 l1 l2 l3 l4 l5 l6;go_wp2_with fail
      go_roundw
      case rel=>exact⟨i+1,_,by simp,by omega,hb.drop,HW2,HO2⟩
      case measure=>simp[intOf];omega
     ·go_wp2_with fail;exact⟨rfl,Sd.gave (by rw[← HO1.out,hok2];simp) hf⟩
    ·go_wp2_with fail;exact⟨rfl,Sd.gave (by rw[← HO1.out,hok1];simp) hf⟩
   ·have ei:i=args.length:=by omega
    subst ei;have hw:=HW.out;rw[Y1 (by rw[← HT.out];exact Nr' _)] at hw;have ho:=HO.out;rw[List.drop_eq_nil_of_le (by rw[← HT.out];exact Nr' _:ls.length≤args.length),mayPs_end (Nr' _)] at ho;go_wp2_with fail;refine(hb.add1 [125] _ (by have h1:=congrArg List.length hw;have h2:=HL.out;simp only[La',Ln',Lc'] at h1 ⊢;omega)).mono ?_;rintro e w4 ⟨rfl,hb⟩;go_wp2_with fail
    go_end0
    exact Sd.done (by rw[← ho];rfl) (by rw[← hw];simp) hb.drop
 rcases Uw hh with h|h|h|h|h|h|h|h|h <;> first|exact absurd h t1|exact absurd h t2|exact absurd h t3|exact absurd h t4|exact absurd h t5|exact absurd h t6|exact absurd h t7|exact absurd h t8|exact absurd h t9
theorem S4(w0:World)(ok:Nat→Prop)(P:Nat)(hV:Dx w0):∀ N,N≤1099511627776→PC w0 ok P N
 | 0,_=>fun _ _ _ _ _ _ _ _ _ _ _ _ _ _ h=>absurd h (Nat.not_lt_zero _)
 | N+1,hN=>wpat_step w0 ok P N hV (by omega) (S4 w0 ok P hV N (by omega))
end
theorem Fr.then_below{w0 wr w':World}(h:Fr [] w0 wr)(hb:Below w0.heap.size wr w'):Fr [] w0 w' :=
 ⟨hb.os.trans h.os,hb.tape.trans h.tape,hb.output.trans h.output,Nat.le_trans h.size hb.size,fun k hk hn=>(hb.block k hk).trans (h.block k hk hn)⟩
theorem Wo:prog.cellsOf 5=1:=by kernel_rfl
theorem WB.string{w0 wr:World}{P:Nat}{rs:List (Nat×Obj)}{l:LB}(h:WB w0 P rs l wr)(h0:l≠[]):
  Calls prog 57 #[.pointer (some ⟨P,0,none⟩)] wr fun e w'=>e = .returned (vS l)∧Fr [] w0 w':=by
 obtain⟨own,⟨p,v,hp,hbk,hown,rfl⟩,hg,hbw,hfr,_⟩:=h;have hl0:l.length≠0:=by simpa using h0
 obtain⟨g,cap,cur,rfl,hbg,hg2,hnc,hcm,hcs,htake⟩:∃ g cap cur,v = .slice (some ⟨g,0,none⟩) l.length cap∧0≤g∧wr.heap[g]?=some (.cells cur 5 (0,0))∧l.length≤cap∧cap≤maxLen∧cur.size=cap * 1∧cur.toList.take (l.length * 1)=Lib.byteCells l:=by
  rcases hown.2 with⟨_,hz⟩| ⟨g,cap,cur,hv,r⟩
  ·exact absurd hz hl0
  ·exact⟨g,cap,cur,hv,r⟩
 have hgg:=hg g rfl
 have c1:wr.drew.cell? ⟨P,1,none⟩=some (.slice (some ⟨g,0,none⟩) l.length cap):=by
  have:wr.drew.heap[P]?=some (.cells #[p,.slice (some ⟨g,0,none⟩) l.length cap] TW (0,0)):=hbk;rw[Ae this];rfl
 have hSD:(Builtin.unsafeSliceData_ #[110] 151 #[.slice (some ⟨g,0,none⟩) l.length cap]).run prog wr.drew = .ok (.pointer (some ⟨g,0,none⟩)) wr.drew:=Lib.run_unsafeSliceData_row _ _ _ _ _ _ (by omega)
 have hUS:(Builtin.unsafeString_ #[151,3] 9 #[.pointer (some ⟨g,0,none⟩),vI l.length]).run prog wr.drew = .ok (vS l) (wr.drew.freeze ⟨g,0,none⟩ l.length):=by
  refine Lib.run_unsafeString_row wr.drew 151 3 9 5 underlying151 Wo g cur.size (by have hg':wr.drew.heap[g]?=some (.cells cur 5 (0,0)):=hg2;simp[World.shape?,hg']) l h0 (by omega) (by unfold maxLen at hcm;omega) ?_;intro j x hx;exact hown.cells (g:=g) rfl j (.int .u8 x.toNat) (by simp[Lib.byteCells,hx])
 have hmx:prog.follows Departure.mixedOrders=true:=by kernel_rfl
 go_enter func57,ntmps57
 go_wp2
 go_region_o
 all_goals(go_wp2;go_ret;exact⟨rfl,hfr.then_below (Lib.below_freeze (Below.drew (Below.refl w0.heap.size wr)) (p:=⟨g,0,none⟩) hgg _)⟩)
theorem WB.len{w0 wr:World}{P:Nat}{rs:List (Nat×Obj)}{l:LB}(h:WB w0 P rs l wr):
  Calls prog 56 #[.pointer (some ⟨P,0,none⟩)] wr fun e w'=>e = .returned (vI l.length)∧w'=wr:=by
 obtain⟨own,⟨p,v,hp,hbk,hown,rfl⟩,hg,hbw,hfr,_⟩:=h
 have hv:∃ A c,v = .slice A l.length c:=by
  rcases hown.2 with⟨hv,h0⟩| ⟨g,cap,cur,hv,_⟩
  ·exact⟨_,_,by rw[hv,h0]⟩
  ·exact⟨_,_,hv⟩
 obtain⟨A,c,rfl⟩:=hv;have c1:wr.cell? ⟨P,1,none⟩=some (.slice A l.length c):=by rw[Ae hbk];rfl
 go_enter func56,ntmps56
 go_wp2
 go_ret;exact⟨rfl,rfl⟩
end Go.Proofs.YtabhpdhajajoiaaGreatDoor
