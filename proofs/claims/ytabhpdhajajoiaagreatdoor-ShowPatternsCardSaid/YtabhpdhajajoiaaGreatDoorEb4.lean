/- A part of the proof: Pe, Lg, Pp, Pk, Pr, Ho, Hn, Pw. -/
import Derived.Test.YtabhpdhajajoiaaGreatDoorRows
import Derived.RangeFuncNested
import Derived.RangeFuncBound
import Derived.RangeFuncCalls
import Derived.RangeFuncLeaves
import Derived.Shelf.Abstract
import Derived.Shelf.RegionOpen
import Derived.WalkKit
import Derived.OwnWalkIn
import Derived.TacticsInMore
import Derived.LoopNIn
import Derived.LoopIn
import Derived.Deep.AppendLies
import Derived.Deep.RegionHeld3
import Derived.Lib.ItoaLen
import Derived.Test.YtabhpdhajajoiaaGreatDoorEb1
import Derived.Test.YtabhpdhajajoiaaGreatDoorEb2
namespace Go.Proofs.YtabhpdhajajoiaaGreatDoor
open Go.RowKit
set_option linter.all false
set_option maxHeartbeats 16000000
set_option maxRecDepth 100000
open List renaming length_cons→Lc',length_append→La',mem_cons_self→Lm',cons_append→Lp',length_nil→Ln'
open Nat renaming lt_of_lt_of_le→Nl',le_refl→Nr'
def CellsAt(w:World)(g o:Nat)(cs:List Value):Prop:=∀ (j:Nat)(v:Value),cs[j]?=some v→w.cell? ⟨g,o+j,none⟩=some v
def Dy(w:World)(ok:Nat→Prop)(v:Value)(n size:Nat)(cs:Nat→List Value):Prop :=
 (∃ A c,v = .slice A 0 c∧n=0)∨∃ g o c,v = .slice (some ⟨g,o,none⟩) n c∧ok g∧g<w.heap.size∧n≤c∧∀ i,i<n→(cs i).length=size∧CellsAt w g (o+i * size) (cs i)
theorem Dy.form{w:World}{ok:Nat→Prop}{v:Value}{n size:Nat}{cs:Nat→List Value}(h:Dy w ok v n size cs):∃ A c,v = .slice A n c:=by
 rcases h with⟨A,c,rfl,rfl⟩| ⟨g,o,c,rfl,_⟩
 ·exact⟨A,c,rfl⟩
 ·exact⟨_,_,rfl⟩
theorem Dy.len{w:World}{ok:Nat→Prop}{A:Option Addr}{m c n size:Nat}{cs:Nat→List Value}(h:Dy w ok (.slice A m c) n size cs):m=n:=by
 obtain⟨A',c',e⟩:=h.form;cases e;rfl
theorem Dy.row{w:World}{ok:Nat→Prop}{A:Option Addr}{n m c size:Nat}{cs:Nat→List Value}(h:Dy w ok (.slice A m c) n size cs){i:Nat}(hi:i<n):∃ g o,A=some ⟨g,o,none⟩∧m=n∧g<w.heap.size∧ok g∧(cs i).length=size∧∀ (j:Nat)(v:Value),(cs i)[j]?=some v→w.cell? ⟨g,o+i * size+j,none⟩=some v:=by
 rcases h with⟨_,_,_,h⟩| ⟨g,o,c',hv,hg,hgs,_,hcs⟩
 ·omega
 ·cases hv;obtain⟨h1,h2⟩:=hcs i hi;exact⟨g,o,rfl,rfl,hgs,hg,h1,h2⟩
theorem Dy.cap{w:World}{ok:Nat→Prop}{A:Option Addr}{n m c size:Nat}{cs:Nat→List Value}(h:Dy w ok (.slice A m c) n size cs)(hn:0<n):n≤c:=by
 rcases h with⟨_,_,_,h⟩| ⟨g,o,c',hv,_,_,hnc,_⟩
 ·omega
 ·cases hv;exact hnc
def Of(s:LB):List Value:=[vS s]
inductive Bd (w:World)(ok:Nat→Prop):Ak→List Value→Prop
 | mk {k a nm n s ls args v5 v6} (c5 c6:Nat→List Value) (h5:Dy w ok v5 ls.length 1 c5) (e5:∀ (i:Nat) (x:LB),ls[i]?=some x→c5 i=Of x)
   (h6:Dy w ok v6 args.length 7 c6) (e6:∀ (i:Nat) (x:Ak),args[i]?=some x→Bd w ok x (c6 i)):
   Bd w ok (.mk k a nm n s ls args) [vI k,vI a,vS nm,vI n,vS s,v5,v6]
inductive Aj (w:World)(ok:Nat→Prop):Ab→List Value→Prop
 | mk {k a nm n s ls args arms v5 v6 v7} (c5 c6 cp ce:Nat→List Value) (h5:Dy w ok v5 ls.length 1 c5) (e5:∀ (i:Nat) (x:LB),ls[i]?=some x→c5 i=Of x)
   (h6:Dy w ok v6 args.length 8 c6) (e6:∀ (i:Nat) (x:Ab),args[i]?=some x→Aj w ok x (c6 i))
   (h7:Dy w ok v7 arms.length 15 (fun i=>cp i++ce i)) (e7:∀ (i:Nat) (p:Ak) (x:Ab),arms[i]?=some (p,x)→Bd w ok p (cp i)) (e8:∀ (i:Nat) (p:Ak) (x:Ab),arms[i]?=some (p,x)→Aj w ok x (ce i)):
   Aj w ok (.mk k a nm n s ls args arms) [vI k,vI a,vS nm,vI n,vS s,v5,v6,v7]
def Sh(w w':World)(ok ok':Nat→Prop):Prop:=∀ b,ok b→b<w.heap.size→ok' b∧w'.heap[b]?=w.heap[b]?∧b<w'.heap.size
theorem Dy.keep{w w':World}{ok ok':Nat→Prop}{v:Value}{n size:Nat}{cs:Nat→List Value}(h:Dy w ok v n size cs)(hs:Sh w w' ok ok'):Dy w' ok' v n size cs:=by
 rcases h with h|⟨g,o,c,rfl,hg,hlt,hnc,hc⟩
 ·exact .inl h
 ·obtain⟨h1,h2,h3⟩:=hs g hg hlt;refine .inr ⟨g,o,c,rfl,h1,h3,hnc,fun i hi=>⟨(hc i hi).1,fun j u hu=>?_⟩⟩;rw[World.cell?_of_block (w:=w) (w':=w') (a:=⟨g,o+i * size+j,none⟩) h2];exact(hc i hi).2 j u hu
theorem Bd.keep{w w':World}{ok ok':Nat→Prop}{x:Ak}{cs:List Value}(h:Bd w ok x cs)(hs:Sh w w' ok ok'):Bd w' ok' x cs:=by
 induction h with
 | mk c5 c6 h5 e5 h6 e6 ih=>exact .mk c5 c6 (h5.keep hs) e5 (h6.keep hs) ih
theorem Aj.keep{w w':World}{ok ok':Nat→Prop}{x:Ab}{cs:List Value}(h:Aj w ok x cs)(hs:Sh w w' ok ok'):Aj w' ok' x cs:=by
 induction h with
 | mk c5 c6 cp ce h5 e5 h6 e6 h7 e7 e8 ih6 ih8=>exact .mk c5 c6 cp ce (h5.keep hs) e5 (h6.keep hs) ih6 (h7.keep hs) (fun i p x hi=>(e7 i p x hi).keep hs) ih8
theorem Dy.nil_(w:World)(ok:Nat→Prop)(size:Nat)(cs:Nat→List Value):Dy w ok (vZ) 0 size cs:=.inl ⟨none,0,rfl,rfl⟩
def Do(cs:Nat→List Value)(n:Nat):List Value:=(List.range n).flatMap cs
theorem Hr(cs:Nat→List Value)(n:Nat):Do cs (n+1)=Do cs n++cs n:=by simp[Do,List.range_succ]
theorem Up{cs ds:Nat→List Value}{n:Nat}(h:∀ i,i<n→cs i=ds i):Do cs n=Do ds n:=by
 induction n with
 | zero=>rfl
 | succ n ih=>rw[Hr,Hr,ih (fun i hi=>h i (by omega)),h n (by omega)]
theorem Zv{cs:Nat→List Value}{size n:Nat}(h:∀ i,i<n→(cs i).length=size):(Do cs n).length=n * size:=by
 induction n with
 | zero=>simp[Do]
 | succ n ih=>rw[Hr,La',ih (fun i hi=>h i (by omega)),h n (by omega),Nat.succ_mul]
theorem Uo{cs:Nat→List Value}{size:Nat}:∀ {n:Nat},(∀ i,i<n→(cs i).length=size)→∀ i,i<n→∀ (j:Nat)(v:Value),(cs i)[j]?=some v→(Do cs n)[i * size+j]?=some v
 | 0,_,i,hi,_,_,_=>by omega
 | n+1,h,i,hi,j,v,hj=>by
  have hl:=Zv (n:=n) (fun i hi=>h i (by omega));have hjs:j<size:=by rw[← h i hi];exact(List.getElem?_eq_some_iff.1 hj).1
  rw[Hr];by_cases e:i=n
  ·subst e;rw[List.getElem?_append_right (by omega),hl,Nat.add_sub_cancel_left];exact hj
  ·have:i * size+j<n * size:=by
    have:=Nat.mul_le_mul_right size (show i+1≤n by omega);rw[Nat.succ_mul] at this;omega
   rw[List.getElem?_append_left (by omega)];exact Uo (fun i hi=>h i (by omega)) i (by omega) j v hj
section
variable {α:Type} (E:World→(Nat→Prop)→α→List Value→Prop)
def Hp:Prop:=∀ (w w':World)(ok ok':Nat→Prop)(x:α)(cs:List Value),E w ok x cs→Sh w w' ok ok'→E w' ok' x cs
structure Al (T size:Nat)(w:World)(ok:Nat→Prop)(v:Value)(xs:List α)(cs:Nat→List Value):Prop where
 own:w.ownsRow 0 T size v xs.length (Do cs xs.length)
 len:∀ i,i<xs.length→(cs i).length=size
 blk:∀ g,v.ownBlock=some g→ok g
 all:∀ (i:Nat) (x:α),xs[i]?=some x→E w (fun b=>ok b∧v.ownBlock≠some b) x (cs i)
end
section
variable {α:Type} {E:World→(Nat→Prop)→α→List Value→Prop} {T size:Nat} {w w':World} {ok ok':Nat→Prop} {v:Value} {xs:List α} {cs:Nat→List Value}
theorem Al.nil_:Al E T size w ok (vZ) ([]:List α) cs:=⟨⟨by simp[Do],.inl ⟨rfl,rfl⟩⟩,fun i hi=>by simp at hi,fun g hg=>by simp[Value.ownBlock] at hg,fun i x h=>by simp at h⟩
theorem Al.lit(hK:Hp E){x:α}{c:List Value}(hx:E w ok x c)(hl:c.length=size)(hok:ok w.heap.size):
  Al E T size (w.alloc (.cells c.toArray T)) ok (.slice (some ⟨w.heap.size,0,none⟩) 1 1) [x] (fun _=>c):=by
 refine⟨?_,fun i hi=>hl,fun g hg=>?_,fun i y hy=>?_⟩
 ·have:=World.ownsRow_lit (base:=0) (e:=T) (size:=size) w c.toArray 1 (Nat.zero_le _) (by decide) (by simp[hl]);simpa [Do] using this
 ·simp[Value.ownBlock] at hg;subst hg;exact hok
 ·have hi:i=0:=by
   rcases i with _|i
   ·rfl
   ·simp at hy
  subst hi;simp at hy;subst hy;refine hK _ _ _ _ _ _ hx (fun b hb hlt=>⟨⟨hb,by simp[Value.ownBlock];omega⟩,Below.heap_alloc _ _ _ hlt,by simp;omega⟩)
theorem Al.lit2(hK:Hp E){x y:α}{c d:List Value}(hx:E w ok x c)(hy:E w ok y d)(hc:c.length=size)(hd:d.length=size)(hok:ok w.heap.size):
  Al E T size (w.alloc (.cells (c++d).toArray T)) ok (.slice (some ⟨w.heap.size,0,none⟩) 2 2) [x,y] (fun i=>if i=0 then c else d):=by
 refine⟨?_,fun i hi=>by split <;> assumption,fun g hg=>?_,fun i z hz=>?_⟩
 ·have:=World.ownsRow_lit (base:=0) (e:=T) (size:=size) w (c++d).toArray 2 (Nat.zero_le _) (by decide) (by simp[hc,hd];omega);simpa [Do,List.range_succ] using this
 ·simp[Value.ownBlock] at hg;subst hg;exact hok
 ·have hs:Sh w (w.alloc (.cells (c++d).toArray T)) ok (fun b=>ok b∧(Value.slice (some ⟨w.heap.size,0,none⟩) 2 2).ownBlock≠some b):=fun b hb hlt=>⟨⟨hb,by simp[Value.ownBlock];omega⟩,Below.heap_alloc _ _ _ hlt,by simp;omega⟩
  match i,hz with
  | 0,hz=>simp at hz;subst hz;exact hK _ _ _ _ _ _ hx hs
  | 1,hz=>simp at hz;subst hz;exact hK _ _ _ _ _ _ hy hs
  | i+2,hz=>simp at hz
theorem Al.keep(hK:Hp E)(h:Al E T size w ok v xs cs)(hs:Sh w w' ok ok'):Al E T size w' ok' v xs cs:=by
 obtain⟨hown,hl,hb,ha⟩:=h;refine⟨⟨hown.1,?_⟩,hl,fun g hg=>?_,fun i x hx=>hK _ _ _ _ _ _ (ha i x hx) (fun b hb' hlt=>⟨⟨(hs b hb'.1 hlt).1,hb'.2⟩,(hs b hb'.1 hlt).2⟩)⟩
 ·rcases hown.2 with h|⟨g,cap,cur,rfl,h1,h2,h3⟩
  ·exact .inl h
  ·have hlt:g<w.heap.size:=(Array.getElem?_eq_some_iff.1 h2).1;exact .inr ⟨g,cap,cur,rfl,h1,(hs g (hb g rfl) hlt).2.1.trans h2,h3⟩
 ·rcases hown.2 with⟨rfl,_⟩| ⟨g',cap,cur,rfl,h1,h2,h3⟩
  ·simp[Value.ownBlock] at hg
  ·simp[Value.ownBlock] at hg;subst hg;exact(hs g' (hb g' rfl) (Array.getElem?_eq_some_iff.1 h2).1).1
theorem Al.app(hK:Hp E)(h:Al E T size w ok v xs cs){x:α}{c:List Value}{okx:Nat→Prop}(hx:E w okx x c)(hl:c.length=size)(hav:∀ b,okx b→b<w.heap.size→ok b∧v.ownBlock≠some b)
  {v':Value} (hown:w'.ownsRow 0 T size v' (xs.length+1) (Do cs xs.length++c)) (hg:w.grownBy w' v.ownBlock) (hfp:Sa v v' w.heap.size) (hnew:∀ b,w.heap.size≤b→ok b):
  Al E T size w' ok v' (xs++[x]) (fun i=>if i=xs.length then c else cs i):=by
 have hne:∀ b,b<w.heap.size→v.ownBlock≠some b→v'.ownBlock≠some b:=fun b hlt hn he=>by
  rcases hfp b he with h1|h1
  ·exact hn h1
  ·omega
 have hs:∀ b,b<w.heap.size→v.ownBlock≠some b→w'.heap[b]?=w.heap[b]?∧b<w'.heap.size:=fun b hlt hn=>⟨hg.block b hlt (fun e=>hn e.symm),Nl' hlt hg.size⟩
 refine⟨?_,fun i hi=>?_,fun g hg'=>?_,fun i y hy=>?_⟩
 ·have e:Do (fun i=>if i=xs.length then c else cs i) (xs++[x]).length=Do cs xs.length++c:=by
   rw[La',List.length_singleton,Hr,if_pos rfl]
   congr 1
   exact Up (fun i hi=>by rw[if_neg (by omega)])
  rw[e,La',List.length_singleton];exact hown
 ·rw[La',List.length_singleton] at hi;show(if i=xs.length then c else cs i).length=size;split
  ·exact hl
  ·exact h.len i (by omega)
 ·rcases hfp g hg' with h1|h1
  ·exact h.blk g h1
  ·exact hnew g h1
 ·show E w' _ y (if i=xs.length then c else cs i);by_cases e:i=xs.length
  ·subst e;rw[if_pos rfl];simp at hy;subst hy;exact hK _ _ _ _ _ _ hx (fun b hb hlt=>⟨⟨(hav b hb hlt).1,hne b hlt (hav b hb hlt).2⟩,hs b hlt (hav b hb hlt).2⟩)
  ·rw[if_neg e]
   have hi:i<xs.length:=by
    have:=(List.getElem?_eq_some_iff.1 hy).1;rw[La',List.length_singleton] at this;omega
   rw[List.getElem?_append_left hi] at hy;exact hK _ _ _ _ _ _ (h.all i y hy) (fun b hb hlt=>⟨⟨hb.1,hne b hlt hb.2⟩,hs b hlt hb.2⟩)
theorem Al.sl(h:Al E T size w ok v xs cs):Dy w ok v xs.length size cs:=by
 have hown:=h.own
 rcases hown.2 with⟨h0,hn⟩| ⟨g,cap,cur,rfl,_,h2,hnc,_,_,ht⟩
 ·exact .inl ⟨none,0,h0,hn⟩
 ·refine .inr ⟨g,0,cap,rfl,h.blk g rfl,(Array.getElem?_eq_some_iff.1 h2).1,hnc,fun i hi=>⟨h.len i hi,fun j u hu=>?_⟩⟩;rw[Nat.zero_add];have hj:j<size:=by rw[← h.len i hi];exact(List.getElem?_eq_some_iff.1 hu).1
  have hb:i * size+j<xs.length * size:=by
   have:=Nat.mul_le_mul_right size (show i+1≤xs.length by omega);rw[Nat.succ_mul] at this;omega
  rw[World.ownsRow.cellAt hown (i * size+j) hb];exact Uo h.len i hi j u hu
theorem Al.el(hK:Hp E)(h:Al E T size w ok v xs cs)(i:Nat)(x:α)(hi:xs[i]?=some x):E w ok x (cs i):=
 hK _ _ _ _ _ _ (h.all i x hi) (fun _ hb hlt=>⟨hb.1,rfl,hlt⟩)
end
theorem An:Hp Aj:=fun _ _ _ _ _ _ h hs=>h.keep hs
theorem G5:Hp Bd:=fun _ _ _ _ _ _ h hs=>h.keep hs
def StrE(_:World)(_:Nat→Prop)(s:LB)(cs:List Value):Prop:=cs=Of s
theorem Ec:Hp StrE:=fun _ _ _ _ _ _ h _=>h
inductive X9 (w:World)(ok:Nat→Prop):Ak×Ab→List Value→Prop
 | mk {p x cp ce} (hp:Bd w ok p cp) (hx:Aj w ok x ce) (hl:cp.length=7):X9 w ok (p,x) (cp++ce)
theorem Ih:Hp X9:=fun _ _ _ _ _ _ h hs=>by cases h with|mk hp hx hl=>exact .mk (hp.keep hs) (hx.keep hs) hl
theorem Bd.len{w:World}{ok:Nat→Prop}{x:Ak}{cs:List Value}(h:Bd w ok x cs):cs.length=7:=by cases h;rfl
theorem Aj.len{w:World}{ok:Nat→Prop}{x:Ab}{cs:List Value}(h:Aj w ok x cs):cs.length=8:=by cases h;rfl
abbrev To:=Al Aj 35 8
abbrev RowP:=Al Bd 25 7
abbrev RowS:=Al StrE 9 1
abbrev RowA:=Al X9 46 15
theorem Aj.of_rows{w:World}{ok:Nat→Prop}{k a:Int}{nm:LB}{n:Int}{s:LB}{ls:List LB}{args:List Ab}{arms:List (Ak×Ab)}{v5 v6 v7:Value}{c5 c6 c7:Nat→List Value}
  (h5:RowS w ok v5 ls c5) (h6:To w ok v6 args c6) (h7:RowA w ok v7 arms c7):
  Aj w ok (.mk k a nm n s ls args arms) [vI k,vI a,vS nm,vI n,vS s,v5,v6,v7]:=by
 have key:∀ (i:Nat) (p:Ak) (x:Ab),arms[i]?=some (p,x)→c7 i=(c7 i).take 7++(c7 i).drop 7∧Bd w ok p ((c7 i).take 7)∧Aj w ok x ((c7 i).drop 7):=fun i p x hi=>by
  have:=h7.el Ih i _ hi
  generalize c7 i=C at *
  cases this with
  | mk hp hx hl=>exact⟨by simp,by rw[← hl,List.take_left];exact hp,by rw[← hl,List.drop_left];exact hx⟩
 refine .mk c5 c6 (fun i=>(c7 i).take 7) (fun i=>(c7 i).drop 7) h5.sl (fun i x hi=>h5.el Ec i x hi) h6.sl (fun i x hi=>h6.el An i x hi) ?_ (fun i p x hi=>(key i p x hi).2.1) (fun i p x hi=>(key i p x hi).2.2);have:=h7.sl;simpa only[List.take_append_drop] using this
theorem Bd.of_rows{w:World}{ok:Nat→Prop}{k a:Int}{nm:LB}{n:Int}{s:LB}{ls:List LB}{args:List Ak}{v5 v6:Value}{c5 c6:Nat→List Value}
  (h5:RowS w ok v5 ls c5) (h6:RowP w ok v6 args c6):
  Bd w ok (.mk k a nm n s ls args) [vI k,vI a,vS nm,vI n,vS s,v5,v6] :=
 .mk c5 c6 h5.sl (fun i x hi=>h5.el Ec i x hi) h6.sl (fun i x hi=>h6.el G5 i x hi)
section
open Go.RowKit Go.Shelf
def AbC{β:Type}(Bs B:Nat)(J:β→World→Prop):Prop:=AbidesFrom B J∧∀ s W v,J s W→J s (W.setCell ⟨Bs,0,none⟩ v)
def Yb{α:Type}(F:Fence)(n:Nat)(P:Program)(gf:Nat)(lb:Array Value)(encs:α→Array Value)(Bs B:Nat)(S Sp:List α→Prop)(N:Nat)(w:World):Prop :=
 ∀ (l:Nat) (J Jx:List α→World→Prop) (W:World),Below B w W→AbC Bs W.heap.size J→AbC Bs W.heap.size Jx →
  (∀ pre x W1,J pre W1→pre.length<N→YieldAt F (n-1) P l (encs x) W1 fun e W' =>
   (e = .returned (.bool true)∧J (pre++[x]) W'∧Below B W1 W')∨(e = .returned (.bool false)∧Jx (pre++[x]) W'))→
  J [] W →
  CallsIn F n P gf (#[.func (.yield l) #[] #[]]++lb) W fun e W'=>(∃ v,e = .returned v)∧((∃ xs,S xs∧J xs W')∨(∃ pre,Sp pre∧Jx pre W'))
theorem B0{W:World}{b k:Nat}{v:Value}(h:k≠b):(W.setCell ⟨b,0,none⟩ v).heap[k]?=W.heap[k]?:=by
 simp[World.setCell,Array.getElem?_modify,Ne.symm h]
section
variable {F:Fence} {n:Nat} {P:Program}
theorem Xr{α:Type}{g:Operand}{ps:Array Tmp}{assign body:Code}{Q:Exit→Act→World→Prop}{a:Act}{w:World}
  (hro:F.round=none) (h1:1≤n) {gf:Nat} {lb:Array Value} (hg:a.eval g = .func (.func gf) #[] lb) (hFg:F.fn gf) (eg:∀ args w,(callFunc gf args).run P w = .ok (.enter gf args) w)
  {encs:α→Array Value} {S Sp:List α→Prop} {N Bs:Nat} (hBs:Bs<w.heap.size) (hseq:Yb F (n-1) P gf lb encs Bs w.heap.size S Sp N w) (hps:∀ x,(encs x).size=ps.size)
  (I Ix:List α→World→Prop) (hI:OwnFrom w.heap.size I) (hIc:∀ s W v,I s W→I s (W.setCell ⟨Bs,0,none⟩ v)) (hIx:OwnFrom w.heap.size Ix) (hIxc:∀ s W v,Ix s W→Ix s (W.setCell ⟨Bs,0,none⟩ v)) (h0:I [] w) (a₁:α→Act)
  (hassign:∀ (l:Nat) (x:α) (W:World) (K:Act→World→Prop),K (a₁ x) W →
   assign.wpIn (F.inRound l) (n-1-1) P (Exit.then K (fun _ _ _=>False)) { tmps:=(ps.zip (encs x)).foldl (fun t (p,v)=>t.setIfInBounds p v) a.tmps,defers:=[] } W)
  (hbody:∀ (l:Nat) (pre:List α) (x:α) (W:World),I pre W→pre.length<N→body.wpIn (F.inRound l) (n-1-1) P (fun e _ W'=>match e with
   | .normal=>KeepsOthers W W'∧Below w.heap.size W W'∧I (pre++[x]) W'
   | .ret=>KeepsOthers W W'∧Ix (pre++[x]) W'
   | _=>False) (a₁ x) W)
  (hdone:∀ (D:Nat) (xs:List α) (W:World),w.heap.size≤D→S xs→I xs W→W.heap[D]?=some (.deferred (some []))→Q .normal { a with defers:={ target:=.collected D,args:=#[] }::a.defers } W)
  (hstop:∀ (D:Nat) (pre:List α) (W:World),w.heap.size≤D→Sp pre→Ix pre W→W.heap[D]?=some (.deferred (some []))→Code.ret.wpIn F n P Q { a with defers:={ target:=.collected D,args:=#[] }::a.defers } W):
  (Code.rangeFunc g ps assign body).wpIn F n P Q a w:=by
 refine wpIn_rangeFunc ?_;intro fn hfn;rw[hro]
 obtain⟨rec,hrec⟩:∃ rec:LoopState→Option Code→Loop,rec=fun st pe=>{ state:=st,pending:=pe,fn,tmps:=a.tmps,params:=ps,assign,body,defers:=w.heap.size }:=⟨_,rfl⟩
 obtain⟨W1,hW1⟩:∃ W1,(w.alloc (.deferred (some []))).alloc (.loop (rec .ready none))=W1:=⟨_,rfl⟩
 have hLoop:W1.heap[w.heap.size+1]?=some (.loop (rec .ready none)):=by
  have:=World.alloc_heap_new (w.alloc (.deferred (some []))) (.loop (rec .ready none));rw[World.size_alloc] at this;rw[← hW1];exact this
 have hDef:W1.heap[w.heap.size]?=some (.deferred (some [])):=by
  rw[← hW1];exact(Below.heap_alloc _ _ _ (by simp)).trans (World.alloc_heap_new w _)
 have hI1:I [] W1:=by rw[← hW1];exact hI.alloc _ (hI.alloc _ h0)
 have hb1:Below w.heap.size w W1:=by rw[← hW1];exact((Below.refl _ w).alloc (Nr' _) _).alloc (by simp) _
 refine⟨w.heap.size+1,[{ target:=.collected w.heap.size,args:=#[] }],W1,{ target:=.fn (.func gf) lb,args:=#[.func (.yield (w.heap.size+1)) #[] #[]] },W1,gf,
  #[.func (.yield (w.heap.size+1)) #[] #[]]++lb,W1,?_,?_,?_,?_,fun _=>h1,?_⟩
 ·rw[← hW1,hrec];exact run_enterLoop_outer _ _ _ _ _
 ·simp only[resolve,hg];simp[go_sem]
 ·intro f' hf';simp[Target.leads] at hf';subst hf';exact hFg
 ·simp[invoke,go_sem,eg]
 ·have cellsOf:∀ {A B:World} {row:Option Nat},(∀ r,row=some r→W1.heap.size≤r∧∃ o:Obj,A.heap[r]?=some o∧o.isWalk=true)→(∀ r,row=some r→w.heap.size≤r∧∃ o:Obj,A.heap[r]?=some o∧o.isCells=false):=
   fun hr r e=>by obtain⟨hB,o,ho,hw⟩:=hr r e;exact⟨Nat.le_trans hb1.size hB,o,ho,Obj.not_cells_of_walk hw⟩
  have nl:w.heap.size+1≠Bs:=by omega
  have nd:w.heap.size≠Bs:=by omega
  refine(hseq (w.heap.size+1)
   (fun pre W=>I pre W∧W.heap[w.heap.size+1]?=some (.loop (rec .ready none))∧W.heap[w.heap.size]?=some (.deferred (some [])))
   (fun pre W=>Ix pre W∧W.heap[w.heap.size+1]?=some (.loop (rec .done (some .ret)))∧W.heap[w.heap.size]?=some (.deferred (some [])))
   W1 hb1
   ⟨fun s A B row hs hg' hr=>⟨hI s A B row hs.1 hg' (cellsOf (B:=B) hr),(grownBy_keeps hg' (fun r e=>(hr r e).2) hs.2.1 rfl).trans hs.2.1,(grownBy_keeps hg' (fun r e=>(hr r e).2) hs.2.2 rfl).trans hs.2.2⟩,
    fun s A v hs=>⟨hIc s A v hs.1,(B0 nl).trans hs.2.1,(B0 nd).trans hs.2.2⟩⟩
   ⟨fun s A B row hs hg' hr=>⟨hIx s A B row hs.1 hg' (cellsOf (B:=B) hr),(grownBy_keeps hg' (fun r e=>(hr r e).2) hs.2.1 rfl).trans hs.2.1,(grownBy_keeps hg' (fun r e=>(hr r e).2) hs.2.2 rfl).trans hs.2.2⟩,
    fun s A v hs=>⟨hIxc s A v hs.1,(B0 nl).trans hs.2.1,(B0 nd).trans hs.2.2⟩⟩
   ?_ ⟨hI1,hLoop,hDef⟩).mono ?_
  ·rintro pre x W ⟨hi,hl,hk⟩ hlen;have hy:=run_yield (P:=P) (args:=encs x) hl (by rw[hrec];exact hps x);rw[hrec] at hy;refine⟨fn,_,assign,body,hy,roundIn_of_wpIn hfn (hassign _ x W _ ⟨_,run_beginRound hl (by rw[hrec]),?_⟩)⟩;have busy:(W.putObj (w.heap.size+1) (.loop { rec .ready none with state:=.busy })).heap[w.heap.size+1]?=some (.loop { rec .ready none with state:=.busy }):=World.putObj_heap_same (Array.getElem?_eq_some_iff.1 hl).1;have defd:(W.putObj (w.heap.size+1) (.loop { rec .ready none with state:=.busy })).heap[w.heap.size]?=some (.deferred (some [])):=(World.putObj_heap_other (by omega)).trans hk;have bel:∀ (V:World) (o:Obj),w.heap.size+1<V.heap.size→Below w.heap.size V (V.putObj (w.heap.size+1) o):=fun V o hv=>(Below.refl _ V).grown (grownBy_putObj' V (w.heap.size+1) o) (by omega) (fun k e=>by cases e;omega)
   refine wpIn_mono (hbody _ pre x _ (hI.putObj _ hi (by omega) hl rfl) hlen) ?_
   have ends:∀ (jump:Option Code) (V:World),KeepsOthers (W.putObj (w.heap.size+1) (.loop { rec .ready none with state:=.busy })) V →
     (Instr.endRound (w.heap.size+1) jump).run P V = .ok (.bool jump.isNone) (V.putObj (w.heap.size+1) (.loop (rec (if jump.isNone then .ready else .done) jump)))∧
     V.heap[w.heap.size+1]?=some (.loop { rec .ready none with state:=.busy })∧
     (V.putObj (w.heap.size+1) (.loop (rec (if jump.isNone then .ready else .done) jump))).heap[w.heap.size+1]?=some (.loop (rec (if jump.isNone then .ready else .done) jump))∧
     (V.putObj (w.heap.size+1) (.loop (rec (if jump.isNone then .ready else .done) jump))).heap[w.heap.size]?=some (.deferred (some [])):=fun jump V hk3=>by
    have hl3:=hk3.same _ _ busy rfl;have:=run_endRound (P:=P) jump hl3;rw[hrec] at this ⊢;exact⟨this,by rw[hrec] at hl3;exact hl3,World.putObj_heap_same (Array.getElem?_eq_some_iff.1 hl3).1,(World.putObj_heap_other (by omega)).trans (hk3.same _ _ defd rfl)⟩
   rintro e a3 V hp
   cases e with
   | normal =>
    obtain⟨hk3,hb3,hi3⟩:=hp;obtain⟨hr,hl3,hl4,hk4⟩:=ends none V hk3
    exact⟨_,_,hr,.inl ⟨rfl,⟨hI.putObj _ hi3 (by omega) hl3 rfl,hl4,hk4⟩,((bel _ _ (Array.getElem?_eq_some_iff.1 hl).1).trans hb3).trans (bel _ _ (Array.getElem?_eq_some_iff.1 hl3).1)⟩⟩
   | ret =>
    obtain⟨hk3,hi3⟩:=hp;obtain⟨hr,hl3,hl4,hk4⟩:=ends (some .ret) V hk3
    exact⟨_,_,hr,.inr ⟨rfl,hIx.putObj _ hi3 (by omega) hl3 rfl,hl4,hk4⟩⟩
   | exit id=>exact hp.elim
   | goto t=>exact hp.elim
   | panic ch=>exact hp.elim
   | outgrown=>exact hp.elim
  ·rintro e V ⟨⟨v,rfl⟩,(⟨xs,hS,hi,hl,hk⟩| ⟨pre,hSp,hi,hl,hk⟩)⟩
   ·exact⟨none,_,by have:=run_endLoop (P:=P) hl (by rw[hrec];simp);rw[hrec] at this;exact this,hdone _ xs _ (Nr' _) hS (hI.putObj _ hi (by omega) hl rfl) ((World.putObj_heap_other (by omega)).trans hk)⟩
   ·exact⟨some .ret,_,by have:=run_endLoop (P:=P) hl (by rw[hrec];simp);rw[hrec] at this;exact this,hstop _ pre _ (Nr' _) hSp (hIx.putObj _ hi (by omega) hl rfl) ((World.putObj_heap_other (by omega)).trans hk)⟩
end
end
mutual
def Bz:Ak→Nat→List (Int×Nat)
 | .mk _ a _ _ _ _ args,d=>(a,d)::C6 args (d+1)
def C6:List Ak→Nat→List (Int×Nat)
 | [],_=>[]
 | x::l,d=>Bz x d++C6 l d
end
mutual
def Bw:Ab→Nat→List (Int×Nat)
 | .mk _ a _ _ _ _ args arms,d=>(a,d)::(C5 args (d+1)++B9 arms (d+1))
def C5:List Ab→Nat→List (Int×Nat)
 | [],_=>[]
 | x::l,d=>Bw x d++C5 l d
def B9:List (Ak×Ab)→Nat→List (Int×Nat)
 | [],_=>[]
 | x::l,d=>Mz x d++B9 l d
def Mz:Ak×Ab→Nat→List (Int×Nat)
 | (p,x),d=>Bz p d++Bw x d
end
mutual
def szP:Ak→Nat
 | .mk _ _ _ _ _ _ args=>1+Ey args
def Ey:List Ak→Nat
 | []=>0
 | x::l=>szP x+Ey l
end
mutual
def szE:Ab→Nat
 | .mk _ _ _ _ _ _ args arms=>1+(B1 args+Cd arms)
def B1:List Ab→Nat
 | []=>0
 | x::l=>szE x+B1 l
def Cd:List (Ak×Ab)→Nat
 | []=>0
 | x::l=>szA x+Cd l
def szA:Ak×Ab→Nat
 | (p,x)=>szP p+szE x
end
theorem V0(l m:List Ak):Ey (l++m)=Ey l+Ey m:=by
 induction l with
 | nil=>simp[Ey]
 | cons x l ih=>simp[Ey,ih];omega
theorem Qk(l m:List Ab):B1 (l++m)=B1 l+B1 m:=by
 induction l with
 | nil=>simp[B1]
 | cons x l ih=>simp[B1,ih];omega
theorem Vz(l m:List (Ak×Ab)):Cd (l++m)=Cd l+Cd m:=by
 induction l with
 | nil=>simp[Cd]
 | cons x l ih=>simp[Cd,ih];omega
theorem Gz{l:List Ak}{i:Nat}{x:Ak}(h:l[i]?=some x):szP x≤Ey l:=by
 induction l generalizing i with
 | nil=>simp at h
 | cons y l ih =>
  cases i with
  | zero=>simp at h;subst h;simp[Ey]
  | succ i=>simp at h;have:=ih h;simp[Ey];omega
theorem Et{l:List Ab}{i:Nat}{x:Ab}(h:l[i]?=some x):szE x≤B1 l:=by
 induction l generalizing i with
 | nil=>simp at h
 | cons y l ih =>
  cases i with
  | zero=>simp at h;subst h;simp[B1]
  | succ i=>simp at h;have:=ih h;simp[B1];omega
theorem Fd{l:List (Ak×Ab)}{i:Nat}{p:Ak}{x:Ab}(h:l[i]?=some (p,x)):szP p+szE x≤Cd l:=by
 induction l generalizing i with
 | nil=>simp at h
 | cons y l ih =>
  cases i with
  | zero=>simp at h;subst h;simp[Cd,szA]
  | succ i=>simp at h;have:=ih h;simp[Cd];omega
theorem Tf(l:List Ak):l.length≤Ey l:=by
 induction l with
 | nil=>simp
 | cons x l ih=>cases x;simp[Ey,szP];omega
theorem Te(l:List Ab):l.length≤B1 l:=by
 induction l with
 | nil=>simp
 | cons x l ih=>cases x;simp[B1,szE];omega
theorem Td(l:List (Ak×Ab)):l.length≤Cd l:=by
 induction l with
 | nil=>simp
 | cons x l ih=>obtain⟨p,x⟩:=x;cases x;cases p;simp[Cd,szA,szE,szP];omega
theorem Y7(x:Ak):0<szP x:=by cases x;simp[szP];omega
theorem Hg{l:List Ak}{i:Nat}{x:Ak}(h:l[i]?=some x)(d:Nat):C6 (l.drop i) d=Bz x d++C6 (l.drop (i+1)) d:=by
 obtain⟨hi,he⟩:=List.getElem?_eq_some_iff.1 h;rw[List.drop_eq_getElem_cons hi,he];simp[C6]
theorem Hf{l:List Ab}{i:Nat}{x:Ab}(h:l[i]?=some x)(d:Nat):C5 (l.drop i) d=Bw x d++C5 (l.drop (i+1)) d:=by
 obtain⟨hi,he⟩:=List.getElem?_eq_some_iff.1 h;rw[List.drop_eq_getElem_cons hi,he];simp[C5]
theorem He{l:List (Ak×Ab)}{i:Nat}{p:Ak}{x:Ab}(h:l[i]?=some (p,x))(d:Nat):B9 (l.drop i) d=Bz p d++(Bw x d++B9 (l.drop (i+1)) d):=by
 obtain⟨hi,he⟩:=List.getElem?_eq_some_iff.1 h;rw[List.drop_eq_getElem_cons hi,he];simp[B9,Mz]
mutual
theorem P0:∀ (x:Ak)(d:Nat),(Bz x d).length=szP x
 | .mk _ _ _ _ _ _ args,d=>by simp[Bz,szP,Nq args (d+1)];omega
theorem Nq:∀ (l:List Ak)(d:Nat),(C6 l d).length=Ey l
 | [],d=>by simp[C6,Ey]
 | x::l,d=>by simp[C6,Ey,P0 x d,Nq l d]
end
mutual
theorem Hx:∀ (x:Ab)(d:Nat),(Bw x d).length=szE x
 | .mk _ _ _ _ _ _ args arms,d=>by simp[Bw,szE,Np args (d+1),Nn arms (d+1)];omega
theorem Np:∀ (l:List Ab)(d:Nat),(C5 l d).length=B1 l
 | [],d=>by simp[C5,B1]
 | x::l,d=>by simp[C5,B1,Hx x d,Np l d]
theorem Nn:∀ (l:List (Ak×Ab))(d:Nat),(B9 l d).length=Cd l
 | [],d=>by simp[B9,Cd]
 | x::l,d=>by simp[B9,Cd,Xl x d,Nn l d]
theorem Xl:∀ (x:Ak×Ab)(d:Nat),(Mz x d).length=szA x
 | (p,x),d=>by simp[Mz,szA,P0 p d,Hx x d]
end
theorem Kf(k a:Int)(nm:LB)(n:Int)(s:LB)(ls:List LB)(args:List Ak)(d:Nat):Bz (.mk k a nm n s ls args) d=(a,d)::C6 args (d+1):=by simp[Bz]
theorem Ke(k a:Int)(nm:LB)(n:Int)(s:LB)(ls:List LB)(args:List Ab)(arms:List (Ak×Ab))(d:Nat):Bw (.mk k a nm n s ls args arms) d=(a,d)::(C5 args (d+1)++B9 arms (d+1)):=by simp[Bw]
def goL{σ:Type}(f:σ→Int×Nat→σ×Bool):σ→List (Int×Nat)→σ×Bool
 | s,[]=>(s,true)
 | s,x::l=>if (f s x).2=true then goL f (f s x).1 l else ((f s x).1,false)
theorem Eo{σ:Type}(f:σ→Int×Nat→σ×Bool)(l m:List (Int×Nat)):∀ s,goL f s (l++m)=if (goL f s l).2=true then goL f (goL f s l).1 m else ((goL f s l).1,false):=by
 induction l with
 | nil=>intro s;simp[goL]
 | cons x l ih =>
  intro s;rw[Lp',goL,goL];split
  ·exact ih _
  ·simp
def C1(most:Int)(s:Int)(_:Int×Nat):Int×Bool:=(s+1,decide (s+1≤most))
def Bm(most:Int)(s:Int×Bool)(p:Int×Nat):(Int×Bool)×Bool:=if (most<(p.2:Int))then ((p.1,true),false)else (s,!s.2)
theorem cnt_go(most:Int)(l:List (Int×Nat)):∀ s,s≤most→goL (C1 most) s l=(min (s+l.length) (most+1),decide (s+l.length≤most)):=by
 induction l with
 | nil=>intro s h;simp[goL];omega
 | cons x l ih =>
  intro s h;rw[goL];show(if decide (s+1≤most)=true then goL (C1 most) (s+1) l else (s+1,false))=_;by_cases h1:s+1≤most
  ·rw[if_pos (by simpa using h1),ih _ h1];simp only[Lc',Prod.mk.injEq,decide_eq_decide];constructor <;> omega
  ·rw[if_neg (by simpa using h1)];simp only[Lc',Prod.mk.injEq];refine⟨by omega,?_⟩
   symm
   rw[decide_eq_false_iff_not];omega
theorem Yg(most:Int)(l:List (Int×Nat)):∀ a,goL (Bm most) (a,false) l=match l.find? (fun p=>decide (most<(p.2:Int)))with
  | some p=>((p.1,true),false)
  | none=>((a,false),true):=by
 induction l with
 | nil=>intro a;simp[goL]
 | cons x l ih =>
  intro a;rw[goL,List.find?_cons];unfold Bm
  by_cases h:most<(x.2:Int)
  ·simp[h]
  ·simp only[h,if_false,decide_false];exact ih a
theorem Sk{most σ:Int}{l:List (Int×Nat)}(h:σ≤most)(h2:(goL (C1 most) σ l).2=true):(goL (C1 most) σ l).1≤most:=by
 rw[cnt_go most l σ h] at h2 ⊢;simp at h2 ⊢;omega
theorem Ug{most:Int}{σ:Int×Bool}{p:Int×Nat}(h:σ.2=false)(h2:(Bm most σ p).2=true):(Bm most σ p).1.2=false:=by
 unfold Bm at h2 ⊢;split at h2
 ·cases h2
 ·rename_i hn
  rw[if_neg hn];exact h
theorem Oh{most:Int}{σ:Int×Bool}{l:List (Int×Nat)}(h:σ.2=false)(h2:(goL (Bm most) σ l).2=true):(goL (Bm most) σ l).1.2=false:=by
 obtain⟨a,f⟩:=σ;simp only at h;subst h;rw[Yg] at h2 ⊢;split at h2
 ·cases h2
 ·rfl
def Ce:NT→Nat
 | .armsL _ _ x acc=>szE x+Cd acc+2
 | .sumL a=>szE a+1
 | .prodL a=>szE a+1
 | .opL _ _ _ acc=>B1 acc+2
 | .appL a=>szE a+1
 | .postL a=>szE a+1
 | .braces _=>2
 | .recL _ _ args=>B1 args+2
 | _=>0
def Gu:PNT→Nat
 | .marked (.mk _ _ _ _ _ _ args)=>Ey args
 | .recL _ _ args=>Ey args+2
 | _=>0
def Wt:Nat→Cmd→Prop
 | b,.retE x=>szE x+1≤b
 | b,.retP x=>szP x+1≤b
 | b,.look k=>∀ t,Wt b (k t true)
 | b,.ahead k=>∀ n,Wt b (k n)
 | b,.adv k=>Wt (b+2) k
 | _,.fail _=>True
 | b,.callE nt k=>∀ x m,szE x+1≤Ce nt+2 * m→Wt (b+2 * m) (k x)
 | b,.callP nt k=>∀ x m,szP x+1≤Gu nt+2 * m→Wt (b+2 * m) (k x)
theorem Du{p:Prop} [Decidable p] {b:Nat}{c d:Cmd}(h1:p→Wt b c)(h2:¬ p→Wt b d):Wt b (if p then c else d):=by
 split
 ·exact h1 (by assumption)
 ·exact h2 (by assumption)
theorem Zb{s:LB}{b:Nat}{k:Bool→Cmd}(h1:Wt (b+2) (k true))(h2:Wt b (k false)):Wt b (Cl s k):=fun _=>Du (fun _=>h1) (fun _=>h2)
theorem D2{s:LB}{b:Nat}{c d:Cmd}(h1:Wt (b+2) c)(h2:Wt b d):Wt b (Cl s fun b=>if b=true then c else d):=Zb h1 h2
theorem wt_adv{b:Nat}{c:Cmd}(h:Wt (b+2) c):Wt b (.adv c):=h
theorem wt_fail{b:Nat}{c:Cmd}:Wt b (.fail c):=trivial
theorem wt_isI{l:List LB}{b:Nat}{c d:Cmd}(h1:Wt b c)(h2:Wt b d):Wt b (isC l fun b=>if b=true then c else d):=fun t=>by
 show Wt b (if _ then _ else _);exact Du (fun _=>h1) (fun _=>h2)
theorem Ds{s:LB}{b:Nat}{c:Cmd}(h:Wt (b+2) c):Wt b (Bv s c):=fun _=>Du (fun _=>h) (fun _=>trivial)
theorem Ja{b:Nat}{k:LB→Cmd}(h:∀ s,Wt (b+2) (k s)):Wt b (Fv k):=fun _=>Du (fun _=>h _) (fun _=>trivial)
theorem Bj{x:Ab}{b:Nat}(h:szE x+1≤b):Wt b (.retE x):=h
theorem Eh{x:Ak}{b:Nat}(h:szP x+1≤b):Wt b (.retP x):=h
theorem wtP(nt:PNT):Wt (Gu nt) (Cn nt):=by
 cases nt with
 | pat =>
  refine fun t=>Du (fun _=>fun x m h=>Eh ?_) (fun _=>fun x m h=>Eh ?_)<;> simp only[Gu,szP,Ey] at * <;> omega
 | patom =>
  refine fun t=>Du (fun h=>by cases h) (fun _=>Du (fun _=>Eh ?_) (fun _=>Du (fun _=>Eh ?_) (fun _=>Du (fun _=>Eh ?_) (fun _=>Du (fun _=>Eh ?_) (fun _=>fun x m h=>Eh ?_)))))
  ·split <;> simp[szP,Ey,Gu]
  all_goals simp only[Gu,szP,Ey] at * <;> omega
 | marked x =>
  obtain⟨k,a,nm,n,s,ls,args⟩:=x;unfold Cn;refine D2 ?_ (D2 ?_ (D2 ?_ (D2 ?_ (D2 ?_ wt_fail))))
  ·exact fun t=>Du (fun _=>Du (fun _=>Eh (by simp only[Gu,szP];omega)) (fun _=>Eh (by simp only[Gu,szP];omega))) (fun _=>trivial)
  ·exact Eh (by simp only[Gu,szP];omega)
  ·exact Eh (by simp only[Gu,szP];omega)
  ·exact D2 (Eh (by simp only[Gu,szP];omega)) (fun x m h=>Ds (Eh (by simp only[Gu] at *;omega)))
  ·refine D2 (Eh (by simp only[Gu,szP];omega)) (fun t=>Du (fun _=>fun x m h=>Eh (by simp only[Gu] at *;omega)) (fun h=>absurd rfl h))
 | recL a ls args =>
  unfold Cn;refine Ja fun s=>Ds fun x m h=>D2 ?_ ?_
  ·exact fun y m2 h2=>Eh (by simp only[Gu,V0,Ey] at *;omega)
  ·exact Ds (Eh (by simp only[Gu,V0,Ey,szP] at *;omega))
theorem wtE(nt:NT):Wt (Ce nt) (body nt):=by
 cases nt with
 | seq=>exact fun x m h t=>D2 (fun y m2 h2=>Bj (by simp only[Ce,D4,szE,B1,Cd] at *;omega)) (Bj (by simp only[Ce] at *;omega))
 | item =>
  refine fun t=>D2 ?_ (wt_isI (fun x m h=>Bj (by simp only[Ce] at *;omega)) (D2 (fun x m h=>Bj (by simp only[Ce] at *;omega)) (D2 (fun x m h=>Bj (by simp only[Ce] at *;omega)) (D2 ?_ (D2 ?_ ?_)))))
  ·refine Zb ?_ ?_
   ·exact Ja fun s=>Ds fun x m h=>Ds fun y m2 h2=>Bj (by simp only[if_true,Ce,szE,B1,Cd] at *;omega)
   ·exact Ja fun s=>Ds fun x m h=>Ds fun y m2 h2=>Bj (by
     have h:szE x+1≤Ce .seq+2 * m:=h
     simp only[Ce,szE,B1,Cd] at *;omega)
  ·exact fun x m h=>Ds fun y m2 h2=>Ds fun z m3 h3=>Bj (by simp only[Ce,D4,szE,B1,Cd] at *;omega)
  ·exact fun x m h=>Bj (by simp only[Ce,D4,szE,B1,Cd] at *;omega)
  ·exact fun x m h t=>D2 (fun y m2 h2=>Bj (by simp only[Ce,opE,szE,B1,Cd] at *;omega)) (Bj (by simp only[Ce] at *;omega))
 | fn=>exact fun t=>Ds (Ja fun s=>Ds fun x m h=>Bj (by simp only[Ce,szE,B1,Cd] at *;omega))
 | arms k a=>exact fun x m h=>Ds fun t=>Du (fun _=>fun y m2 h2=>Bj (by simp only[Ce,Cd] at *;omega)) (fun h=>absurd rfl h)
 | armsL k a x acc=>exact fun p m h=>Ds fun y m2 h2=>D2 (fun z m3 h3=>Bj (by simp only[Ce,Gu,Vz,Cd,szA] at *;omega)) (Ds (Bj (by simp only[Ce,Gu,Vz,Cd,szA,szE,B1] at *;omega)))
 | or=>exact fun x m h t=>D2 (fun y m2 h2=>Bj (by simp only[Ce,D4,szE,B1,Cd] at *;omega)) (Bj (by simp only[Ce] at *;omega))
 | and=>exact fun x m h t=>D2 (fun y m2 h2=>Bj (by simp only[Ce,D4,szE,B1,Cd] at *;omega)) (Bj (by simp only[Ce] at *;omega))
 | cmp=>exact fun x m h t=>Du (fun _=>fun y m2 h2=>Bj (by simp only[Ce,opE,szE,B1,Cd] at *;omega)) (fun _=>Bj (by simp only[Ce] at *;omega))
 | sum=>exact fun x m h y m2 h2=>Bj (by simp only[Ce] at *;omega)
 | sumL a=>exact fun t=>Du (fun _=>fun x m h y m2 h2=>Bj (by simp only[Ce,opE,szE,B1,Cd] at *;omega)) (fun _=>Bj (by simp only[Ce] at *;omega))
 | prod=>exact fun x m h y m2 h2=>Bj (by simp only[Ce] at *;omega)
 | prodL a=>exact fun t=>Du (fun _=>fun x m h y m2 h2=>Bj (by simp only[Ce,opE,szE,B1,Cd] at *;omega)) (fun _=>Bj (by simp only[Ce] at *;omega))
 | unary=>exact fun t=>D2 (fun x m h=>Bj (by simp only[Ce,opE,szE,B1,Cd] at *;omega)) (D2 (fun x m h=>Bj (by simp only[Ce,opE,szE,B1,Cd] at *;omega)) (fun x m h=>Bj (by simp only[Ce] at *;omega)))
 | app =>
  refine fun t=>Du (fun _=>fun x m h=>Bj ?_) (fun _=>Du (fun _=>fun x m h=>Bj ?_) (fun _=>fun x m h y m2 h2=>Bj ?_))<;> simp only[Ce,szE,B1,Cd] at * <;> omega
 | opL n a m acc =>
  cases m with
  | zero=>exact Bj (by simp only[Ce,opE,szE,Cd];omega)
  | succ m=>exact fun x m1 h y m2 h2=>Bj (by simp only[Ce,Qk,B1] at *;omega)
 | appL a=>exact fun t=>Du (fun _=>fun x m h y m2 h2=>Bj (by simp only[Ce,D4,szE,B1,Cd] at *;omega)) (fun _=>Bj (by simp only[Ce] at *;omega))
 | post=>exact fun t=>D2 (fun x m h=>Bj (by simp only[Ce,opE,szE,B1,Cd] at *;omega)) (fun x m h y m2 h2=>Bj (by simp only[Ce] at *;omega))
 | postL a=>exact fun t=>Du (fun _=>wt_adv (Ja fun s=>fun y m2 h2=>Bj (by simp only[Ce,szE,B1,Cd] at *;omega))) (fun _=>Bj (by simp only[Ce] at *;omega))
 | atom =>
  intro t;refine Du (fun _=>?_) (fun _=>trivial);show Wt (0+2) _
  repeat refine Du (fun _=>(by first|exact Bj (by simp only[szE,B1,Cd];omega)| exact fun x m h=>Bj (by simp only[Ce] at *;omega))) (fun _=>?_)
  exact D2 (Bj (by simp only[szE,B1,Cd];omega)) (fun x m h=>Ds (Bj (by simp only[Ce] at *;omega)))
 | braces a =>
  unfold body
  refine D2 (Bj (by simp only[Ce,szE,B1,Cd];omega)) (fun n t=>Du (fun _=>Du (fun _=>fun x m h=>Bj (by simp only[Ce,B1] at *;omega)) (fun h=>absurd rfl h)) (fun _=>fun x m h=>Ds (Ja fun s=>Ds fun y m2 h2=>Ds (Bj (by simp only[Ce,szE,B1,Cd] at *;omega)))))
 | recL a ls args =>
  unfold body;refine Ja fun s=>Ds fun x m h=>D2 ?_ ?_
  ·exact fun y m2 h2=>Bj (by simp only[Ce,Qk,B1] at *;omega)
  ·exact Ds (Bj (by simp only[Ce,Qk,B1,szE,Cd] at *;omega))
def szR:Rs→Nat
 | .e x=>szE x
 | .p x=>szP x
theorem Run.cost{ts:List Tok}{c:Cmd}{st:St}{r:Rs}{st':St}(h:Run ts c st r st'):∀ {b:Nat},Wt b c→st'.ok=true→szR r+1≤b+2 *(st'.i-st.i):=by
 induction h with
 | retE=>intro b hw _;simp only[Wt] at hw;simp only[szR];omega
 | retP=>intro b hw _;simp only[Wt] at hw;simp only[szR];omega
 | look h hk ih=>intro b hw hok;have:=hk.grows.2 hok;exact ih (by rw[this];exact hw _) hok
 | ahead h hk ih=>intro b hw hok;exact ih (hw _) hok
 | adv hk ih =>
  intro b hw hok;have h1:=ih (b:=b+2) hw hok;have h2:=hk.grows.1;simp only at h1 h2
  omega
 | fail hk ih=>intro b hw hok;have:=hk.grows.2 hok;cases this
 | @callE nt k st x st1 r st' h hk ih1 ih2 =>
  intro b hw hok;have h1:=ih1 (wtE nt) (hk.grows.2 hok);have h2:=ih2 (b:=b+2 *(st1.i-st.i)) (hw x _ h1) hok;have h3:=h.grows.1;have h4:=hk.grows.1
  omega
 | @callP nt k st x st1 r st' h hk ih1 ih2 =>
  intro b hw hok;have h1:=ih1 (wtP nt) (hk.grows.2 hok);have h2:=ih2 (b:=b+2 *(st1.i-st.i)) (hw x _ h1) hok;have h3:=h.grows.1;have h4:=hk.grows.1;omega
theorem Bi{P:Program}{w:World}{ops:Array Oper}{o:Oper}{a:Act}{K:Act→World→Prop}{Q:Exit→Act→World→Prop}{E:Prop}(hgd:o.guard=none)(s x:Operand)(t:TypeId)
  (ho:o.op = .call { callee:=.builtin .append,args:=#[s,x],argTypes:=#[t,t] })
  (e:TypeId) (i:TypeInfo) (z:Value) (size bytes:Nat) (ht:P.underlying t=some (.slice e)) (hi:P.info? e=some i) (hz:i.zero=some z)
  (hsize:i.size=size) (hby:i.bytes=bytes) (hzs:z.cells.size=size) (hsz:0<size)
  (v:Value) (n:Nat) (xs:List Value) (hs:a.eval s=v) (hown:w.ownsRow 0 e size v n xs)
  (ad:Addr) (m c:Nat) (news:List Value) (hx:a.eval x = .slice (some ad) m c) (hl:news.length=m * size) (hnews:∀ j u,news[j]?=some u→w.cell? (ad.add j)=some u) (h1:∀ u ∈ news,u.oneCell'=true)
  (h63:n+m≤maxLen) (hbytes:(n+m)* bytes≤140737488355328)
  (h:∀ v' w',w'.ownsRow 0 e size v' (n+m) (xs++news)→w.grownBy w' v.ownBlock→Sa v v' w.heap.size→K (a.put o.dst v') w'):
  if Region.wanted o (yielded ops a.tmps)=true then Oper.wp P o a w K Q else E:=by
 have hw:Region.wanted o (yielded ops a.tmps)=true:=by simp[Region.wanted,hgd]
 rw[if_pos hw];obtain⟨v',w',hr,h2,h3,h4⟩:=Ku (P:=P) w t o.type e i z size bytes ht hi hz hsize hby hzs hsz v n xs hown ad m c news hl hnews h1 h63 hbytes;unfold Oper.wp execOp;simp only[ho,resolve,invoke,builtin,Sem.run_bind,Sem.run_pure,Result.andThen_ok,List.map_toArray,List.map_cons,List.map_nil,hs,hx,hr];exact h v' w' h2 h3 h4
theorem Dj{w:World}{b:Nat}{T:TypeId}{size:Nat}{v:Value}{n:Nat}{xs:List Value}(h:w.ownsRow b T size v (n+1) xs):∃ g cap,v = .slice (some ⟨g,0,none⟩) (n+1) cap:=by
 rcases h.2 with⟨_,hn⟩| ⟨g,cap,cur,hv,_⟩
 ·omega
 ·exact⟨g,cap,hv⟩
theorem Al.own_lt{α:Type}{E:World→(Nat→Prop)→α→List Value→Prop}{T:TypeId}{size:Nat}{w:World}{ok:Nat→Prop}{v:Value}{xs:List α}{cs:Nat→List Value}(h:Al E T size w ok v xs cs)(g:Nat)(hg:v.ownBlock=some g):g<w.heap.size:=by
 rcases h.own.2 with⟨hv,_⟩| ⟨g',cap,cur,hv,_,h2,_⟩
 ·rw[hv] at hg;simp[Value.ownBlock] at hg
 ·rw[hv] at hg;simp[Value.ownBlock] at hg;subst hg;exact(Array.getElem?_eq_some_iff.1 h2).1
def SL{α:Type}(R:α→α→Prop)(l l':List α):Prop:=l.length=l'.length∧∀ (i:Nat)(x y:α),l[i]?=some x→l'[i]?=some y→R x y
theorem SL.nil_{α:Type}(R:α→α→Prop):SL R [] []:=⟨rfl,fun i x y h=>by simp at h⟩
theorem SL.app{α:Type}{R:α→α→Prop}{l l':List α}{x y:α}(h:SL R l l')(hx:R x y):SL R (l++[x]) (l'++[y]):=by
 refine⟨by simp[h.1],fun i u v hu hv=>?_⟩;rcases Nat.lt_trichotomy i l.length with hlt|heq|hgt
 ·rw[List.getElem?_append_left hlt] at hu;rw[List.getElem?_append_left (by rw[← h.1];exact hlt)] at hv;exact h.2 i u v hu hv
 ·rw[heq,List.getElem?_append_right (Nr' _),Nat.sub_self] at hu;rw[heq,h.1,List.getElem?_append_right (Nr' _),Nat.sub_self] at hv;simp at hu hv;subst hu;subst hv;exact hx
 ·have:(l++[x])[i]?=none:=List.getElem?_eq_none (by simp;omega);rw[this] at hu;cases hu
theorem SL.one{α:Type}{R:α→α→Prop}{x y:α}(hx:R x y):SL R [x] [y]:=SL.app (SL.nil_ R) hx
theorem SL.two{α:Type}{R:α→α→Prop}{x y x2 y2:α}(hx:R x y)(h2:R x2 y2):SL R [x,x2] [y,y2]:=SL.app (SL.one hx) h2
theorem SL.three{α:Type}{R:α→α→Prop}{x y x2 y2 x3 y3:α}(hx:R x y)(h2:R x2 y2)(h3:R x3 y3):SL R [x,x2,x3] [y,y2,y3]:=SL.app (SL.two hx h2) h3
inductive D8:Ak→Ak→Prop
 | mk {k a a' nm n s ls args args'} (hl:args.length=args'.length) (h:∀ (i:Nat) (x y:Ak),args[i]?=some x→args'[i]?=some y→D8 x y):D8 (.mk k a nm n s ls args) (.mk k a' nm n s ls args')
inductive Bl:Ab→Ab→Prop
 | mk {k a a' nm n s ls args args' arms arms'} (hl:args.length=args'.length) (h:∀ (i:Nat) (x y:Ab),args[i]?=some x→args'[i]?=some y→Bl x y)
   (hl2:arms.length=arms'.length) (hp:∀ (i:Nat) (p p':Ak) (x y:Ab),arms[i]?=some (p,x)→arms'[i]?=some (p',y)→D8 p p')
   (hx:∀ (i:Nat) (p p':Ak) (x y:Ab),arms[i]?=some (p,x)→arms'[i]?=some (p',y)→Bl x y):Bl (.mk k a nm n s ls args arms) (.mk k a' nm n s ls args' arms')
def Tp(p q:Ak×Ab):Prop:=D8 p.1 q.1∧Bl p.2 q.2
theorem sP{k a a':Int}{nm:LB}{n:Int}{s:LB}{ls:List LB}{args args':List Ak}(h:SL D8 args args'):D8 (.mk k a nm n s ls args) (.mk k a' nm n s ls args'):=.mk h.1 h.2
theorem sE{k a a':Int}{nm:LB}{n:Int}{s:LB}{ls:List LB}{args args':List Ab}{arms arms':List (Ak×Ab)}(h:SL Bl args args')(hm:SL Tp arms arms'):Bl (.mk k a nm n s ls args arms) (.mk k a' nm n s ls args' arms'):=
 .mk h.1 h.2 hm.1 (fun i _p _p' _x _y h1 h2=>(hm.2 i _ _ h1 h2).1) (fun i _p _p' _x _y h1 h2=>(hm.2 i _ _ h1 h2).2)
theorem sE0{k a a':Int}{nm:LB}{n:Int}{s:LB}{ls:List LB}{args args':List Ab}(h:SL Bl args args'):Bl (.mk k a nm n s ls args []) (.mk k a' nm n s ls args' []):=sE h (SL.nil_ _)
theorem sEl{k a a':Int}{nm:LB}{n:Int}{s:LB}:Bl (.mk k a nm n s [] [] []) (.mk k a' nm n s [] [] []):=sE0 (SL.nil_ _)
theorem sPl{k a a':Int}{nm:LB}{n:Int}{s:LB}:D8 (.mk k a nm n s [] []) (.mk k a' nm n s [] []):=sP (SL.nil_ _)
inductive PNR:PNT→PNT→Prop
 | pat:PNR .pat .pat
 | patom:PNR .patom .patom
 | marked {x y} (h:D8 x y):PNR (.marked x) (.marked y)
 | recL {a a' ls args args'} (h:SL D8 args args'):PNR (.recL a ls args) (.recL a' ls args')
inductive NR:NT→NT→Prop
 | seq:NR .seq .seq
 | item:NR .item .item
 | fn:NR .fn .fn
 | arms {k a a'}:NR (.arms k a) (.arms k a')
 | armsL {k a a' x y acc acc'} (hx:Bl x y) (h:SL Tp acc acc'):NR (.armsL k a x acc) (.armsL k a' y acc')
 | or:NR .or .or
 | and:NR .and .and
 | cmp:NR .cmp .cmp
 | sum:NR .sum .sum
 | sumL {x y} (h:Bl x y):NR (.sumL x) (.sumL y)
 | prod:NR .prod .prod
 | prodL {x y} (h:Bl x y):NR (.prodL x) (.prodL y)
 | unary:NR .unary .unary
 | app:NR .app .app
 | opL {n a a' m acc acc'} (h:SL Bl acc acc'):NR (.opL n a m acc) (.opL n a' m acc')
 | appL {x y} (h:Bl x y):NR (.appL x) (.appL y)
 | post:NR .post .post
 | postL {x y} (h:Bl x y):NR (.postL x) (.postL y)
 | atom:NR .atom .atom
 | braces {a a'}:NR (.braces a) (.braces a')
 | recL {a a' ls args args'} (h:SL Bl args args'):NR (.recL a ls args) (.recL a' ls args')
def Kx(t:Tok)(c:Cmd):Prop:=∀ (ts:List Tok)(i:Nat)(ok:Bool)(r:Rs)(st':St),ts[i]?=some t→Run ts c ⟨i,ok⟩ r st'→st'.ok=false
inductive CR:Cmd→Cmd→Prop
 | retE {x y} (h:Bl x y):CR (.retE x) (.retE y)
 | retP {x y} (h:D8 x y):CR (.retP x) (.retP y)
 | look {k k'} (h:∀ (q:Int) (a a':Nat) (tx:LB) (n:Int) (ok:Bool),CR (k ⟨q,a,tx,n⟩ ok) (k' ⟨q,a',tx,n⟩ ok))
   (h2:∀ (a a':Nat) (tx:LB) (n n':Int) (ok:Bool),¬ Kx ⟨0,a,tx,n⟩ (k ⟨0,a,tx,n⟩ ok)→CR (k ⟨0,a,tx,n⟩ ok) (k' ⟨7,a',[41],n'⟩ ok)):CR (.look k) (.look k')
 | ahead {a a'} (h:∀ n n',(n.k==7&&n.text==[61])=(n'.k==7&&n'.text==[61])→CR (.look (brK a n)) (.look (brK a' n'))):CR (.ahead fun n => .look (brK a n)) (.ahead fun n => .look (brK a' n))
 | adv {c c'} (h:CR c c'):CR (.adv c) (.adv c')
 | fail {c c'} (h:CR c c'):CR (.fail c) (.fail c')
 | callE {nt nt' k k'} (hn:NR nt nt') (h:∀ x y,Bl x y→CR (k x) (k' y)):CR (.callE nt k) (.callE nt' k')
 | callP {nt nt' k k'} (hn:PNR nt nt') (h:∀ x y,D8 x y→CR (k x) (k' y)):CR (.callP nt k) (.callP nt' k')
theorem CR.ite{p:Prop} [Decidable p] {c d c' d':Cmd}(h1:p→CR c c')(h2:¬ p→CR d d'):CR (if p then c else d) (if p then c' else d'):=by
 split
 ·exact h1 (by assumption)
 ·exact h2 (by assumption)
theorem Ol(a:Nat)(tx:LB)(n:Int)(ok:Bool)(l:List LB):isB ⟨0,a,tx,n⟩ ok l=false:=by cases ok <;> rfl
theorem Mp(a:Nat)(n:Int)(ok:Bool)(l:List LB)(hl:l.contains [41]=false):isB ⟨7,a,[41],n⟩ ok l=false:=by
 show(ok&&true&&l.contains [41])=false;rw[hl];cases ok <;> rfl
theorem nameB_end(a:Nat)(tx:LB)(n:Int)(ok:Bool):Ks ⟨0,a,tx,n⟩ ok=false:=by cases ok <;> rfl
theorem CR.may{s:LB}{k k':Bool→Cmd}(hs:[s].contains [41]=false)(h:∀ b,CR (k b) (k' b)):CR (Cl s k) (Cl s k'):=by
 refine .look (fun q a a' tx n ok=>?_) (fun a a' tx n n' ok _=>?_)
 ·exact CR.ite (fun _ => .adv (h true)) (fun _=>h false)
 ·rw[Ol,Mp _ _ _ _ hs,if_neg (by decide),if_neg (by decide)];exact h false
theorem Kx.fail{t:Tok}{c:Cmd}:Kx t (.fail c):=by
 intro ts i ok r st' ht h
 cases h with
 | fail hk =>
  have:=hk.grows.2
  cases hok:st'.ok with
  | false=>rfl
  | true=>have:=this hok;cases this
theorem Kx.callE{t:Tok}{nt:NT}{k:Ab→Cmd}(h:Kx t (body nt)):Kx t (.callE nt k):=by
 intro ts i ok r st' ht hr
 cases hr with
 | callE h1 hk =>
  have h2:=h _ _ _ _ _ ht h1
  cases hok:st'.ok with
  | false=>rfl
  | true=>have:=hk.grows.2 hok;rw[h2] at this;cases this
theorem Kx.callP{t:Tok}{nt:PNT}{k:Ak→Cmd}(h:Kx t (Cn nt)):Kx t (.callP nt k):=by
 intro ts i ok r st' ht hr
 cases hr with
 | callP h1 hk =>
  have h2:=h _ _ _ _ _ ht h1
  cases hok:st'.ok with
  | false=>rfl
  | true=>have:=hk.grows.2 hok;rw[h2] at this;cases this
theorem Kx.look{t:Tok}{k:Tok→Bool→Cmd}(h:∀ ok,Kx t (k t ok)):Kx t (.look k):=by
 intro ts i ok r st' ht hr
 cases hr with
 | look h1 hk=>rw[ht] at h1;cases h1;exact h _ _ _ _ _ _ ht hk
section
variable {a:Nat} {tx:LB} {n:Int}
theorem Kx.may{s:LB}{k:Bool→Cmd}(h:Kx ⟨0,a,tx,n⟩ (k false)):Kx ⟨0,a,tx,n⟩ (Cl s k):=.look fun ok=>by
 rw[Ol,if_neg (by decide)];exact h
end
theorem CR.name{k k':LB→Cmd}(h:∀ s,CR (k s) (k' s)):CR (Fv k) (Fv k'):=by
 refine .look (fun q a a' tx n ok=>?_) (fun a a' tx n n' ok hnd=>absurd ?_ hnd)
 ·exact CR.ite (fun _ => .adv (h _)) (fun _ => .fail (h _))
 ·rw[nameB_end,if_neg (by decide)];exact .fail
def Dm(s:LB):Bool:=match s with
 | []=>false
 | c::_=>Cf c&&As (95::s)
structure Ky where
 name:Bool
 n:Bool
 s:Bool
 labels:Bool
 args:Nat
 arms:Bool
def Dc(n:Int):Nat:=if n=6∨n=9∨n=10∨n=11∨n=16∨n=17∨n=20∨n=21 then 1 else if n=15 then 3 else 2
def Bt(k n:Int)(nl:Nat):Option Ky :=
 if k=1∨k=6 then some ⟨true,false,false,false,0,false⟩
 else if k=2∨k=4 then some ⟨false,true,false,false,0,false⟩
 else if k=3 then some ⟨false,false,true,false,0,false⟩
 else if k=5 then some ⟨false,false,false,false,0,false⟩
 else if k=7∨k=14∨k=15 then some ⟨true,false,false,false,1,false⟩
 else if k=8∨k=20∨k=21∨k=22 then some ⟨false,false,false,false,2,false⟩
 else if k=9∨k=10∨k=13 then some ⟨true,false,false,false,2,false⟩
 else if k=11 then some ⟨false,false,false,false,3,false⟩
 else if k=12 then some ⟨false,false,false,true,nl,false⟩
 else if k=16∨k=17 then some ⟨false,false,false,false,1,true⟩
 else if k=18 then some ⟨false,false,false,false,1,false⟩
 else if k=19∧1≤n∧n≤21 then some ⟨false,true,false,false,Dc n,false⟩
 else none
def Ah(h:Ky)(nm:LB)(n:Int)(s:LB)(nl na ma:Nat):Bool :=
 (h.name||nm.isEmpty)&&(h.n||n==0)&&(h.s||s.isEmpty)&&(h.labels||nl==0)&&(na==h.args)&&(decide (0<ma)==h.arms)
def Ea:Int:=4611686018427387903
def A9(k:Int)(nm:LB)(n:Int)(ls:List LB)(k0:Int):Bool :=
 if k=1∨k=7∨k=9∨k=13∨k=14 then As nm
 else if k=10 then As nm&&k0==7
 else if k=6∨k=15 then Dm nm
 else if k=2 then decide (0≤n)&&decide (n≤Ea)
 else if k=4 then n==0||n==1
 else if k=12 then ls.all As
 else true
def Ab.k_:Ab→Int
 | .mk k _ _ _ _ _ _ _=>k
def Dp(l:List Ab):Int:=match l with
 | []=>0
 | x::_=>x.k_
def El(k:Int)(nm:LB)(n:Int)(s:LB)(ls:List LB)(na ma:Nat)(k0:Int):Bool :=
 (match Bt k n ls.length with|some h=>Ah h nm n s ls.length na ma|none=>false)&&A9 k nm n ls k0
def Ee(k:Int)(nl:Nat):Option Ky :=
 if k=2∨k=7 then some ⟨true,false,false,false,0,false⟩
 else if k=3∨k=5 then some ⟨false,true,false,false,0,false⟩
 else if k=4 then some ⟨false,false,true,false,0,false⟩
 else if k=8 then some ⟨true,false,false,false,1,false⟩
 else if k=9 then some ⟨false,false,false,true,nl,false⟩
 else if k=1∨k=6 then some ⟨false,false,false,false,0,false⟩
 else none
def D9(k:Int)(nm:LB)(n:Int)(ls:List LB):Bool :=
 if k=2 then As nm && !(nm==[95])
 else if k=7∨k=8 then Dm nm
 else if k=3 then decide (-Ea≤n)&&decide (n≤Ea)
 else if k=5 then n==0||n==1
 else if k=9 then ls.all As
 else true
def F0(k:Int)(nm:LB)(n:Int)(s:LB)(ls:List LB)(na:Nat):Bool :=
 (match Ee k ls.length with|some h=>Ah h nm n s ls.length na 0|none=>false)&&D9 k nm n ls
mutual
def Ct:Ak→Bool
 | .mk k _ nm n s ls args=>F0 k nm n s ls args.length&&Db args
def Db:List Ak→Bool
 | []=>true
 | x::l=>Ct x&&Db l
end
mutual
def Be:Ab→Bool
 | .mk k _ nm n s ls args arms=>El k nm n s ls args.length arms.length (Dp args)&&Au args&&A0 arms
def Au:List Ab→Bool
 | []=>true
 | x::l=>Be x&&Au l
def A0:List (Ak×Ab)→Bool
 | []=>true
 | x::l=>mayA x&&A0 l
def mayA:Ak×Ab→Bool
 | (p,x)=>Ct p&&Be x
end
def Fs(n:Int):LB:=if n=1 then [116,114,117,101] else [102,97,108,115,101]
def Bx(n:Int):LB :=
 if n=1 then [43] else if n=2 then [45] else if n=3 then [42] else if n=4 then [47] else if n=5 then [37] else if n=6 then [45] else if n=7 then [61] else if n=8 then [60] else if n=9 then [110,111,116] else if n=10 then [114,101,102] else if n=11 then [33] else if n=12 then [58,61] else if n=13 then [97,114,114,97,121] else if n=14 then [103,101,116] else if n=15 then [115,101,116] else if n=16 then [108,101,110] else if n=17 then [115,105,122,101] else if n=18 then [98,121,116,101] else if n=19 then [99,97,116] else if n=20 then [103,101,116,99] else if n=21 then [112,117,116,99] else []
def G8:Bool→List LB→List LB→List UInt8
 | _,[],_=>[]
 | _,_::_,[]=>[]
 | f,x::ls,t::l=>(if f=true then [] else [44,32])++(x++([32,61,32]++(t++G8 false ls l)))
def Gj:Bool→List (List UInt8×LB)→List UInt8
 | _,[]=>[]
 | f,(p,t)::l=>(if f=true then [] else [32,124,32])++(p++([32,45,62,32]++(t++Gj false l)))
def Gh:List LB→List UInt8
 | []=>[]
 | t::l=>32::(t++Gh l)
def opT(n:Int)(l:List LB):LB :=
 if n=6∨n=9∨n=11 then Bx n++(32::l.getD 0 [])
 else if n≤8∨n=12 then l.getD 0 []++(32::(Bx n++(32::l.getD 1 [])))
 else Bx n++Gh l
def Gb(l:LB):LB:=(l.drop 1).dropLast
def Bc(k:Int)(nm:LB)(n:Int)(l:List LB)(m:List (List UInt8×LB)):LB :=
 if k=7 then [102,117,110,32]++(nm++([32,45,62,32]++l.getD 0 []))
 else if k=8 then l.getD 0 []++(32::l.getD 1 [])
 else if k=9 then [108,101,116,32]++(nm++([32,61,32]++(l.getD 0 []++([32,105,110,32]++l.getD 1 []))))
 else if k=10 then [108,101,116,32,114,101,99,32]++(nm++([32,61,32]++(Gb (l.getD 0 [])++([32,105,110,32]++l.getD 1 []))))
 else if k=11 then [105,102,32]++(l.getD 0 []++([32,116,104,101,110,32]++(l.getD 1 []++([32,101,108,115,101,32]++l.getD 2 []))))
 else if k=15 then 35::(nm++(32::l.getD 0 []))
 else if k=16 then [109,97,116,99,104,32]++(l.getD 0 []++([32,119,105,116,104,32]++(Gj true m++[32,101,110,100])))
 else if k=17 then [116,114,121,32]++(l.getD 0 []++([32,119,105,116,104,32]++(Gj true m++[32,101,110,100])))
 else if k=18 then [114,97,105,115,101,32]++l.getD 0 []
 else if k=20 then l.getD 0 []++([59,32]++l.getD 1 [])
 else if k=21 then l.getD 0 []++([32,38,38,32]++l.getD 1 [])
 else if k=22 then l.getD 0 []++([32,124,124,32]++l.getD 1 [])
 else opT n l
def Eb(k:Int)(nm:LB)(n:Int)(s:LB)(ls:List LB)(l:List LB)(m:List (List UInt8×LB)):LB :=
 if k=1∨k=6 then nm
 else if k=2 then Lib.itoa n
 else if k=3 then C7 s
 else if k=4 then Fs n
 else if k=5 then [40,41]
 else if k=14 then l.getD 0 []++(46::nm)
 else if k=12 then 123::(G8 true ls l++[125])
 else if k=13 then 123::(l.getD 0 []++([32,119,105,116,104,32]++(nm++([32,61,32]++(l.getD 1 []++[125])))))
 else 40::(Bc k nm n l m++[41])
def Mb(k:Int)(nm:LB)(n:Int)(s:LB)(ls:List LB)(l:List LB):LB :=
 if k=1 then [95]
 else if k=2∨k=7 then nm
 else if k=3 then Lib.itoa n
 else if k=4 then C7 s
 else if k=5 then Fs n
 else if k=6 then [40,41]
 else if k=8 then 40::35::(nm++(32::(l.getD 0 []++[41])))
 else 123::(G8 true ls l++[125])
mutual
def txP:Ak→List UInt8
 | .mk k _ nm n s ls args=>Mb k nm n s ls (Gg args)
def Gg:List Ak→List LB
 | []=>[]
 | x::l=>txP x::Gg l
end
mutual
def txE:Ab→List UInt8
 | .mk k _ nm n s ls args arms=>Eb k nm n s ls (Az args) (Cr arms)
def Az:List Ab→List LB
 | []=>[]
 | x::l=>txE x::Az l
def Cr:List (Ak×Ab)→List (List UInt8×LB)
 | []=>[]
 | x::l=>txA x::Cr l
def txA:Ak×Ab→List UInt8×List UInt8
 | (p,x)=>(txP p,txE x)
end
def inN(n:Int):Prop:=-9223372036854775808≤n∧n≤9223372036854775807
def nmOk(nm:LB)(n:Int)(s:LB)(ls:List LB):Prop:=nm.length≤65536∧inN n∧s.length≤65536∧∀ x ∈ ls,x.length≤65536
mutual
def SwP:Ak→Prop
 | .mk _ _ nm n s ls args=>nmOk nm n s ls∧Qw args
def Qw:List Ak→Prop
 | []=>True
 | x::l=>SwP x∧Qw l
end
mutual
def SwE:Ab→Prop
 | .mk _ _ nm n s ls args arms=>nmOk nm n s ls∧Im args∧Ny arms
def Im:List Ab→Prop
 | []=>True
 | x::l=>SwE x∧Im l
def Ny:List (Ak×Ab)→Prop
 | []=>True
 | x::l=>SwA x∧Ny l
def SwA:Ak×Ab→Prop
 | (p,x)=>SwP p∧SwE x
end
theorem Qw.get{l:List Ak}(h:Qw l){i:Nat}{x:Ak}(hi:l[i]?=some x):SwP x:=by
 induction l generalizing i with
 | nil=>simp at hi
 | cons y l ih=>cases i with
  | zero=>simp at hi;subst hi;exact h.1
  | succ i=>exact ih h.2 (by simpa using hi)
theorem Im.get{l:List Ab}(h:Im l){i:Nat}{x:Ab}(hi:l[i]?=some x):SwE x:=by
 induction l generalizing i with
 | nil=>simp at hi
 | cons y l ih=>cases i with
  | zero=>simp at hi;subst hi;exact h.1
  | succ i=>exact ih h.2 (by simpa using hi)
theorem Ny.get{l:List (Ak×Ab)}(h:Ny l){i:Nat}{p:Ak}{x:Ab}(hi:l[i]?=some (p,x)):SwP p∧SwE x:=by
 induction l generalizing i with
 | nil=>simp at hi
 | cons y l ih=>cases i with
  | zero=>simp at hi;subst hi;exact h.1
  | succ i=>exact ih h.2 (by simpa using hi)
theorem Qw.app{l:List Ak}{x:Ak}(h:Qw l)(hx:SwP x):Qw (l++[x]):=by
 induction l with
 | nil=>exact⟨hx,trivial⟩
 | cons y l ih=>exact⟨h.1,ih h.2⟩
theorem Im.app{l:List Ab}{x:Ab}(h:Im l)(hx:SwE x):Im (l++[x]):=by
 induction l with
 | nil=>exact⟨hx,trivial⟩
 | cons y l ih=>exact⟨h.1,ih h.2⟩
theorem Ny.app{l:List (Ak×Ab)}{p:Ak}{x:Ab}(h:Ny l)(hp:SwP p)(hx:SwE x):Ny (l++[(p,x)]):=by
 induction l with
 | nil=>exact⟨⟨hp,hx⟩,trivial⟩
 | cons y l ih=>exact⟨h.1,ih h.2⟩
def sumL:List LB→Nat
 | []=>0
 | x::l=>x.length+sumL l
def Vx:List (List UInt8×LB)→Nat
 | []=>0
 | (p,x)::l=>p.length+x.length+Vx l
theorem sum3(l:List LB):(l.getD 0 []).length+(l.getD 1 []).length+(l.getD 2 []).length≤sumL l:=by
 match l with
 | []=>simp
 | [a]=>simp[sumL]
 | [a,b]=>simp[sumL]
 | a::b::c::l=>simp[sumL];omega
theorem Y2{ls:List LB}(h:∀ x ∈ ls,x.length≤65536):∀ (f:Bool)(l:List LB),(G8 f ls l).length≤sumL l+65541 * l.length:=by
 induction ls with
 | nil=>intro f l;simp[G8]
 | cons x ls ih =>
  intro f l
  cases l with
  | nil=>simp[G8]
  | cons t l =>
   have h1:=ih (fun x hx=>h x (List.mem_cons_of_mem _ hx)) false l;have h2:=h x (Lm' ..);have h3:(if f=true then ([]:LB)else [44,32]).length≤2:=by split <;> simp
   simp only[G8,sumL,La',Lc',Ln'];omega
theorem call_len(l:List LB):(Gh l).length=sumL l+l.length:=by
 induction l with
 | nil=>rfl
 | cons t l ih=>simp only[Gh,sumL,La',Lc',ih];omega
theorem Ye:∀ (f:Bool)(l:List (List UInt8×LB)),(Gj f l).length≤Vx l+7 * l.length
 | _,[]=>by simp[Gj]
 | f,(p,t)::l=>by
  have h1:=Ye false l;have h3:(if f=true then ([]:LB)else [32,124,32]).length≤3:=by split <;> simp
  simp only[Gj,Vx,La',Lc',Ln'];omega
theorem Wv(l:LB):(Gb l).length≤l.length:=by unfold Gb;rw[List.length_dropLast,List.length_drop];omega
theorem ite5{p:Prop} [Decidable p] {a b:LB}(ha:a.length≤5)(hb:b.length≤5):(if p then a else b).length≤5:=by split <;> assumption
theorem Sw{p:Prop} [Decidable p] {a b:LB}{n:Nat}(ha:a.length≤n)(hb:b.length≤n):(if p then a else b).length≤n:=by split <;> assumption
theorem Qh(n:Int):(Bx n).length≤5:=by
 unfold Bx
 repeat refine ite5 (by decide) ?_
 decide
theorem Rz(n:Int):(Fs n).length≤5:=ite5 (by decide) (by decide)
theorem Rv(s:LB):(C7 s).length≤4 * s.length+2:=by
 have:=Lm s;simp only[C7,La',Lc',Ln'];omega
theorem patT_len{k:Int}{nm:LB}{n:Int}{s:LB}{ls:List LB}(h:nmOk nm n s ls)(l:List LB):(Mb k nm n s ls l).length≤300000+(sumL l+65541 * l.length):=by
 obtain⟨h1,h2,h3,h4⟩:=h;have a1:=sum3 l;have a2:=Y2 h4 true l;have a3:=Lib.itoa_length_le n h2.1 h2.2;have a4:=Rv s;have a5:=Rz n;unfold Mb
 repeat' with_reducible refine Sw ?_ ?_
 all_goals try simp only[La',Lc',Ln'] at *
 all_goals omega
theorem textT_len{k:Int}{nm:LB}{n:Int}{s:LB}{ls:List LB}(h:nmOk nm n s ls)(l:List LB)(m:List (List UInt8×LB)):(Eb k nm n s ls l m).length≤300000+(sumL l+65541 * l.length)+(Vx m+7 * m.length):=by
 obtain⟨h1,h2,h3,h4⟩:=h;have a1:=sum3 l;have a2:=Y2 h4 true l;have a3:=Lib.itoa_length_le n h2.1 h2.2;have a4:=Rv s;have a5:=Rz n;have a6:=call_len l;have a7:=Ye true m;have a8:=Wv (l.getD 0 []);have a9:=Qh n
 have b1:(opT n l).length≤10+sumL l+l.length:=by
  unfold opT
  repeat' with_reducible refine Sw ?_ ?_
  all_goals try simp only[La',Lc',Ln']
  all_goals omega
 have b2:(Bc k nm n l m).length≤299000+(sumL l+l.length)+(Vx m+7 * m.length):=by
  unfold Bc
  repeat' with_reducible refine Sw ?_ ?_
  all_goals try simp only[La',Lc',Ln']
  all_goals omega
 unfold Eb
 repeat' with_reducible refine Sw ?_ ?_
 all_goals try simp only[La',Lc',Ln']
 all_goals omega
theorem bd_add{a b c d e K M:Nat}(h1:a+M≤K * c)(h2:b+M * d≤K * e):a+b+M *(d+1)≤K *(c+e):=by
 rw[Nat.mul_add,Nat.mul_add,Nat.mul_one];omega
theorem bd_add2{a b c d e f K:Nat}(h1:a+f+7≤K * c)(h2:b+7 * d≤K * e):a+f+b+7 *(d+1)≤K *(c+e):=by
 rw[Nat.mul_add K];omega
mutual
theorem X1:∀ x:Ak,SwP x→(txP x).length+65541≤1048576 * szP x
 | .mk k a nm n s ls args,h=>by
  have h1:=Za args h.2;have h2:=patT_len (k:=k) h.1 (Gg args);simp only[txP,szP];omega
theorem Za:∀ l:List Ak,Qw l→sumL (Gg l)+65541 *(Gg l).length≤1048576 * Ey l
 | [],_=>by simp[Gg,sumL]
 | x::l,h=>by
  have h1:=X1 x h.1;have h2:=Za l h.2;simp only[Gg,Ey,sumL,Lc'];exact bd_add h1 h2
end
mutual
theorem X0:∀ x:Ab,SwE x→(txE x).length+65541≤1048576 * szE x
 | .mk k a nm n s ls args arms,h=>by
  have h1:=Y9 args h.2.1;have h3:=Y8 arms h.2.2;have h2:=textT_len (k:=k) h.1 (Az args) (Cr arms);simp only[txE,szE];omega
theorem Y9:∀ l:List Ab,Im l→sumL (Az l)+65541 *(Az l).length≤1048576 * B1 l
 | [],_=>by simp[Az,sumL]
 | x::l,h=>by
  have h1:=X0 x h.1;have h2:=Y9 l h.2;simp only[Az,B1,sumL,Lc'];exact bd_add h1 h2
theorem Y8:∀ l:List (Ak×Ab),Ny l→Vx (Cr l)+7 *(Cr l).length≤1048576 * Cd l
 | [],_=>by simp[Cr,Vx]
 | x::l,h=>by
  have h1:=txA_bd x h.1;have h2:=Y8 l h.2;simp only[Cr,Cd,Lc'];revert h1;generalize txA x=y;obtain⟨p,t⟩:=y;intro h1;simp only[Vx];simp only at h1;exact bd_add2 h1 h2
theorem txA_bd:∀ x:Ak×Ab,SwA x→(txA x).1.length+(txA x).2.length+7≤1048576 * szA x
 | (p,x),h=>by
  have h1:=X1 p h.1;have h2:=X0 x h.2;simp only[txA,szA];omega
end
mutual
def laP:Ak→Nat
 | .mk _ _ _ _ _ ls args=>1+ls.length+Hd args
def Hd:List Ak→Nat
 | []=>0
 | x::l=>laP x+Hd l
end
mutual
def laE:Ab→Nat
 | .mk _ _ _ _ _ ls args arms=>1+ls.length+(D7 args+D6 arms)
def D7:List Ab→Nat
 | []=>0
 | x::l=>laE x+D7 l
def D6:List (Ak×Ab)→Nat
 | []=>0
 | x::l=>laA x+D6 l
def laA:Ak×Ab→Nat
 | (p,x)=>laP p+laE x
end
theorem U1{l:List Ak}{i:Nat}{x:Ak}(h:l[i]?=some x):laP x≤Hd l:=by
 induction l generalizing i with
 | nil=>simp at h
 | cons y l ih =>
  cases i with
  | zero=>simp at h;subst h;simp[Hd]
  | succ i=>simp at h;have:=ih h;simp[Hd];omega
theorem Yp(l:List Ak):l.length≤Hd l:=by
 induction l with
 | nil=>simp
 | cons x l ih=>cases x;simp[Hd,laP];omega
end Go.Proofs.YtabhpdhajajoiaaGreatDoor
