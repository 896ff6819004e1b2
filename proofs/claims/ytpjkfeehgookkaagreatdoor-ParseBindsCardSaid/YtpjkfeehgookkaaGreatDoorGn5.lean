/- A part of the proof: Pe, Lg, Pk. -/
import Derived.Test.YtpjkfeehgookkaaGreatDoorRows
import Derived.RangeFuncNested
import Derived.RangeFuncBound
import Derived.RangeFuncCalls
import Derived.RangeFuncLeaves
import Derived.Shelf.Abstract
import Derived.Shelf.RegionOpen
import Derived.WalkKit
import Derived.OwnWalkIn
import Derived.TacticsInMore
import Derived.LoopNIn
import Derived.LoopIn
import Derived.Deep.AppendLies
import Derived.Deep.RegionHeld3
import Derived.Test.YtpjkfeehgookkaaGreatDoorGn1
namespace Go.Proofs.YtpjkfeehgookkaaGreatDoor
open Go.RowKit
set_option linter.all false
set_option maxHeartbeats 16000000
set_option maxRecDepth 100000
open List renaming length_append→La'
open Nat renaming lt_of_lt_of_le→Nl',le_refl→Nr'
def CellsAt(w:World)(g o:Nat)(cs:List Value):Prop:=∀ (j:Nat)(v:Value),cs[j]?=some v→w.cell? ⟨g,o+j,none⟩=some v
def D4(w:World)(ok:Nat→Prop)(v:Value)(n size:Nat)(cs:Nat→List Value):Prop :=
 (∃ A c,v = .slice A 0 c∧n=0)∨∃ g o c,v = .slice (some ⟨g,o,none⟩) n c∧ok g∧g<w.heap.size∧n≤c∧∀ i,i<n→(cs i).length=size∧CellsAt w g (o+i * size) (cs i)
theorem D4.form{w:World}{ok:Nat→Prop}{v:Value}{n size:Nat}{cs:Nat→List Value}(h:D4 w ok v n size cs):∃ A c,v = .slice A n c:=by
 rcases h with⟨A,c,rfl,rfl⟩| ⟨g,o,c,rfl,_⟩
 ·exact⟨A,c,rfl⟩
 ·exact⟨_,_,rfl⟩
theorem D4.len{w:World}{ok:Nat→Prop}{A:Option Addr}{m c n size:Nat}{cs:Nat→List Value}(h:D4 w ok (.slice A m c) n size cs):m=n:=by
 obtain⟨A',c',e⟩:=h.form;cases e;rfl
theorem D4.row{w:World}{ok:Nat→Prop}{A:Option Addr}{n m c size:Nat}{cs:Nat→List Value}(h:D4 w ok (.slice A m c) n size cs){i:Nat}(hi:i<n):∃ g o,A=some ⟨g,o,none⟩∧m=n∧g<w.heap.size∧ok g∧(cs i).length=size∧∀ (j:Nat)(v:Value),(cs i)[j]?=some v→w.cell? ⟨g,o+i * size+j,none⟩=some v:=by
 rcases h with⟨_,_,_,h⟩| ⟨g,o,c',hv,hg,hgs,_,hcs⟩
 ·omega
 ·cases hv;obtain⟨h1,h2⟩:=hcs i hi;exact⟨g,o,rfl,rfl,hgs,hg,h1,h2⟩
theorem D4.cap{w:World}{ok:Nat→Prop}{A:Option Addr}{n m c size:Nat}{cs:Nat→List Value}(h:D4 w ok (.slice A m c) n size cs)(hn:0<n):n≤c:=by
 rcases h with⟨_,_,_,h⟩| ⟨g,o,c',hv,_,_,hnc,_⟩
 ·omega
 ·cases hv;exact hnc
def S2(s:LB):List Value:=[vS s]
inductive Bf (w:World)(ok:Nat→Prop):Av→List Value→Prop
 | mk {k a nm n s ls args v5 v6} (c5 c6:Nat→List Value) (h5:D4 w ok v5 ls.length 1 c5) (e5:∀ (i:Nat) (x:LB),ls[i]?=some x→c5 i=S2 x)
   (h6:D4 w ok v6 args.length 7 c6) (e6:∀ (i:Nat) (x:Av),args[i]?=some x→Bf w ok x (c6 i)):
   Bf w ok (.mk k a nm n s ls args) [vI k,vI a,vS nm,vI n,vS s,v5,v6]
inductive Ai (w:World)(ok:Nat→Prop):Ah→List Value→Prop
 | mk {k a nm n s ls args arms v5 v6 v7} (c5 c6 cp ce:Nat→List Value) (h5:D4 w ok v5 ls.length 1 c5) (e5:∀ (i:Nat) (x:LB),ls[i]?=some x→c5 i=S2 x)
   (h6:D4 w ok v6 args.length 8 c6) (e6:∀ (i:Nat) (x:Ah),args[i]?=some x→Ai w ok x (c6 i))
   (h7:D4 w ok v7 arms.length 15 (fun i=>cp i++ce i)) (e7:∀ (i:Nat) (p:Av) (x:Ah),arms[i]?=some (p,x)→Bf w ok p (cp i)) (e8:∀ (i:Nat) (p:Av) (x:Ah),arms[i]?=some (p,x)→Ai w ok x (ce i)):
   Ai w ok (.mk k a nm n s ls args arms) [vI k,vI a,vS nm,vI n,vS s,v5,v6,v7]
def Sh(w w':World)(ok ok':Nat→Prop):Prop:=∀ b,ok b→b<w.heap.size→ok' b∧w'.heap[b]?=w.heap[b]?∧b<w'.heap.size
theorem D4.keep{w w':World}{ok ok':Nat→Prop}{v:Value}{n size:Nat}{cs:Nat→List Value}(h:D4 w ok v n size cs)(hs:Sh w w' ok ok'):D4 w' ok' v n size cs:=by
 rcases h with h|⟨g,o,c,rfl,hg,hlt,hnc,hc⟩
 ·exact .inl h
 ·obtain⟨h1,h2,h3⟩:=hs g hg hlt;refine .inr ⟨g,o,c,rfl,h1,h3,hnc,fun i hi=>⟨(hc i hi).1,fun j u hu=>?_⟩⟩;rw[World.cell?_of_block (w:=w) (w':=w') (a:=⟨g,o+i * size+j,none⟩) h2];exact(hc i hi).2 j u hu
theorem Bf.keep{w w':World}{ok ok':Nat→Prop}{x:Av}{cs:List Value}(h:Bf w ok x cs)(hs:Sh w w' ok ok'):Bf w' ok' x cs:=by
 induction h with
 | mk c5 c6 h5 e5 h6 e6 ih=>exact .mk c5 c6 (h5.keep hs) e5 (h6.keep hs) ih
theorem Ai.keep{w w':World}{ok ok':Nat→Prop}{x:Ah}{cs:List Value}(h:Ai w ok x cs)(hs:Sh w w' ok ok'):Ai w' ok' x cs:=by
 induction h with
 | mk c5 c6 cp ce h5 e5 h6 e6 h7 e7 e8 ih6 ih8=>exact .mk c5 c6 cp ce (h5.keep hs) e5 (h6.keep hs) ih6 (h7.keep hs) (fun i p x hi=>(e7 i p x hi).keep hs) ih8
theorem D4.nil_(w:World)(ok:Nat→Prop)(size:Nat)(cs:Nat→List Value):D4 w ok (vZ) 0 size cs:=.inl ⟨none,0,rfl,rfl⟩
def Cc(cs:Nat→List Value)(n:Nat):List Value:=(List.range n).flatMap cs
theorem E5(cs:Nat→List Value)(n:Nat):Cc cs (n+1)=Cc cs n++cs n:=by simp[Cc,List.range_succ]
theorem L9{cs ds:Nat→List Value}{n:Nat}(h:∀ i,i<n→cs i=ds i):Cc cs n=Cc ds n:=by
 induction n with
 | zero=>rfl
 | succ n ih=>rw[E5,E5,ih (fun i hi=>h i (by omega)),h n (by omega)]
theorem Ps{cs:Nat→List Value}{size n:Nat}(h:∀ i,i<n→(cs i).length=size):(Cc cs n).length=n * size:=by
 induction n with
 | zero=>simp[Cc]
 | succ n ih=>rw[E5,La',ih (fun i hi=>h i (by omega)),h n (by omega),Nat.succ_mul]
theorem L8{cs:Nat→List Value}{size:Nat}:∀ {n:Nat},(∀ i,i<n→(cs i).length=size)→∀ i,i<n→∀ (j:Nat)(v:Value),(cs i)[j]?=some v→(Cc cs n)[i * size+j]?=some v
 | 0,_,i,hi,_,_,_=>by omega
 | n+1,h,i,hi,j,v,hj=>by
  have hl:=Ps (n:=n) (fun i hi=>h i (by omega));have hjs:j<size:=by rw[← h i hi];exact(List.getElem?_eq_some_iff.1 hj).1
  rw[E5];by_cases e:i=n
  ·subst e;rw[List.getElem?_append_right (by omega),hl,Nat.add_sub_cancel_left];exact hj
  ·have:i * size+j<n * size:=by
    have:=Nat.mul_le_mul_right size (show i+1≤n by omega);rw[Nat.succ_mul] at this;omega
   rw[List.getElem?_append_left (by omega)];exact L8 (fun i hi=>h i (by omega)) i (by omega) j v hj
section
variable {α:Type} (E:World→(Nat→Prop)→α→List Value→Prop)
def E3:Prop:=∀ (w w':World)(ok ok':Nat→Prop)(x:α)(cs:List Value),E w ok x cs→Sh w w' ok ok'→E w' ok' x cs
structure Aj (T size:Nat)(w:World)(ok:Nat→Prop)(v:Value)(xs:List α)(cs:Nat→List Value):Prop where
 own:w.ownsRow 0 T size v xs.length (Cc cs xs.length)
 len:∀ i,i<xs.length→(cs i).length=size
 blk:∀ g,v.ownBlock=some g→ok g
 all:∀ (i:Nat) (x:α),xs[i]?=some x→E w (fun b=>ok b∧v.ownBlock≠some b) x (cs i)
end
section
variable {α:Type} {E:World→(Nat→Prop)→α→List Value→Prop} {T size:Nat} {w w':World} {ok ok':Nat→Prop} {v:Value} {xs:List α} {cs:Nat→List Value}
theorem Aj.nil_:Aj E T size w ok (vZ) ([]:List α) cs:=⟨⟨by simp[Cc],.inl ⟨rfl,rfl⟩⟩,fun i hi=>by simp at hi,fun g hg=>by simp[Value.ownBlock] at hg,fun i x h=>by simp at h⟩
theorem Aj.lit(hK:E3 E){x:α}{c:List Value}(hx:E w ok x c)(hl:c.length=size)(hok:ok w.heap.size):
  Aj E T size (w.alloc (.cells c.toArray T)) ok (.slice (some ⟨w.heap.size,0,none⟩) 1 1) [x] (fun _=>c):=by
 refine⟨?_,fun i hi=>hl,fun g hg=>?_,fun i y hy=>?_⟩
 ·have:=World.ownsRow_lit (base:=0) (e:=T) (size:=size) w c.toArray 1 (Nat.zero_le _) (by decide) (by simp[hl]);simpa [Cc] using this
 ·simp[Value.ownBlock] at hg;subst hg;exact hok
 ·have hi:i=0:=by
   rcases i with _|i
   ·rfl
   ·simp at hy
  subst hi;simp at hy;subst hy;refine hK _ _ _ _ _ _ hx (fun b hb hlt=>⟨⟨hb,by simp[Value.ownBlock];omega⟩,Below.heap_alloc _ _ _ hlt,by simp;omega⟩)
theorem Aj.lit2(hK:E3 E){x y:α}{c d:List Value}(hx:E w ok x c)(hy:E w ok y d)(hc:c.length=size)(hd:d.length=size)(hok:ok w.heap.size):
  Aj E T size (w.alloc (.cells (c++d).toArray T)) ok (.slice (some ⟨w.heap.size,0,none⟩) 2 2) [x,y] (fun i=>if i=0 then c else d):=by
 refine⟨?_,fun i hi=>by split <;> assumption,fun g hg=>?_,fun i z hz=>?_⟩
 ·have:=World.ownsRow_lit (base:=0) (e:=T) (size:=size) w (c++d).toArray 2 (Nat.zero_le _) (by decide) (by simp[hc,hd];omega);simpa [Cc,List.range_succ] using this
 ·simp[Value.ownBlock] at hg;subst hg;exact hok
 ·have hs:Sh w (w.alloc (.cells (c++d).toArray T)) ok (fun b=>ok b∧(Value.slice (some ⟨w.heap.size,0,none⟩) 2 2).ownBlock≠some b):=fun b hb hlt=>⟨⟨hb,by simp[Value.ownBlock];omega⟩,Below.heap_alloc _ _ _ hlt,by simp;omega⟩
  match i,hz with
  | 0,hz=>simp at hz;subst hz;exact hK _ _ _ _ _ _ hx hs
  | 1,hz=>simp at hz;subst hz;exact hK _ _ _ _ _ _ hy hs
  | i+2,hz=>simp at hz
theorem Aj.keep(hK:E3 E)(h:Aj E T size w ok v xs cs)(hs:Sh w w' ok ok'):Aj E T size w' ok' v xs cs:=by
 obtain⟨hown,hl,hb,ha⟩:=h;refine⟨⟨hown.1,?_⟩,hl,fun g hg=>?_,fun i x hx=>hK _ _ _ _ _ _ (ha i x hx) (fun b hb' hlt=>⟨⟨(hs b hb'.1 hlt).1,hb'.2⟩,(hs b hb'.1 hlt).2⟩)⟩
 ·rcases hown.2 with h|⟨g,cap,cur,rfl,h1,h2,h3⟩
  ·exact .inl h
  ·have hlt:g<w.heap.size:=(Array.getElem?_eq_some_iff.1 h2).1;exact .inr ⟨g,cap,cur,rfl,h1,(hs g (hb g rfl) hlt).2.1.trans h2,h3⟩
 ·rcases hown.2 with⟨rfl,_⟩| ⟨g',cap,cur,rfl,h1,h2,h3⟩
  ·simp[Value.ownBlock] at hg
  ·simp[Value.ownBlock] at hg;subst hg;exact(hs g' (hb g' rfl) (Array.getElem?_eq_some_iff.1 h2).1).1
theorem Aj.app(hK:E3 E)(h:Aj E T size w ok v xs cs){x:α}{c:List Value}{okx:Nat→Prop}(hx:E w okx x c)(hl:c.length=size)(hav:∀ b,okx b→b<w.heap.size→ok b∧v.ownBlock≠some b)
  {v':Value} (hown:w'.ownsRow 0 T size v' (xs.length+1) (Cc cs xs.length++c)) (hg:w.grownBy w' v.ownBlock) (hfp:Lt v v' w.heap.size) (hnew:∀ b,w.heap.size≤b→ok b):
  Aj E T size w' ok v' (xs++[x]) (fun i=>if i=xs.length then c else cs i):=by
 have hne:∀ b,b<w.heap.size→v.ownBlock≠some b→v'.ownBlock≠some b:=fun b hlt hn he=>by
  rcases hfp b he with h1|h1
  ·exact hn h1
  ·omega
 have hs:∀ b,b<w.heap.size→v.ownBlock≠some b→w'.heap[b]?=w.heap[b]?∧b<w'.heap.size:=fun b hlt hn=>⟨hg.block b hlt (fun e=>hn e.symm),Nl' hlt hg.size⟩
 refine⟨?_,fun i hi=>?_,fun g hg'=>?_,fun i y hy=>?_⟩
 ·have e:Cc (fun i=>if i=xs.length then c else cs i) (xs++[x]).length=Cc cs xs.length++c:=by
   rw[La',List.length_singleton,E5,if_pos rfl]
   congr 1
   exact L9 (fun i hi=>by rw[if_neg (by omega)])
  rw[e,La',List.length_singleton];exact hown
 ·rw[La',List.length_singleton] at hi;show(if i=xs.length then c else cs i).length=size;split
  ·exact hl
  ·exact h.len i (by omega)
 ·rcases hfp g hg' with h1|h1
  ·exact h.blk g h1
  ·exact hnew g h1
 ·show E w' _ y (if i=xs.length then c else cs i);by_cases e:i=xs.length
  ·subst e;rw[if_pos rfl];simp at hy;subst hy;exact hK _ _ _ _ _ _ hx (fun b hb hlt=>⟨⟨(hav b hb hlt).1,hne b hlt (hav b hb hlt).2⟩,hs b hlt (hav b hb hlt).2⟩)
  ·rw[if_neg e]
   have hi:i<xs.length:=by
    have:=(List.getElem?_eq_some_iff.1 hy).1;rw[La',List.length_singleton] at this;omega
   rw[List.getElem?_append_left hi] at hy;exact hK _ _ _ _ _ _ (h.all i y hy) (fun b hb hlt=>⟨⟨hb.1,hne b hlt hb.2⟩,hs b hlt hb.2⟩)
theorem Aj.sl(h:Aj E T size w ok v xs cs):D4 w ok v xs.length size cs:=by
 have hown:=h.own
 rcases hown.2 with⟨h0,hn⟩| ⟨g,cap,cur,rfl,_,h2,hnc,_,_,ht⟩
 ·exact .inl ⟨none,0,h0,hn⟩
 ·refine .inr ⟨g,0,cap,rfl,h.blk g rfl,(Array.getElem?_eq_some_iff.1 h2).1,hnc,fun i hi=>⟨h.len i hi,fun j u hu=>?_⟩⟩;rw[Nat.zero_add];have hj:j<size:=by rw[← h.len i hi];exact(List.getElem?_eq_some_iff.1 hu).1
  have hb:i * size+j<xs.length * size:=by
   have:=Nat.mul_le_mul_right size (show i+1≤xs.length by omega);rw[Nat.succ_mul] at this;omega
  rw[World.ownsRow.cellAt hown (i * size+j) hb];exact L8 h.len i hi j u hu
theorem Aj.el(hK:E3 E)(h:Aj E T size w ok v xs cs)(i:Nat)(x:α)(hi:xs[i]?=some x):E w ok x (cs i):=
 hK _ _ _ _ _ _ (h.all i x hi) (fun _ hb hlt=>⟨hb.1,rfl,hlt⟩)
end
theorem Al:E3 Ai:=fun _ _ _ _ _ _ h hs=>h.keep hs
theorem En:E3 Bf:=fun _ _ _ _ _ _ h hs=>h.keep hs
def StrE(_:World)(_:Nat→Prop)(s:LB)(cs:List Value):Prop:=cs=S2 s
theorem Cr:E3 StrE:=fun _ _ _ _ _ _ h _=>h
inductive Ot (w:World)(ok:Nat→Prop):Av×Ah→List Value→Prop
 | mk {p x cp ce} (hp:Bf w ok p cp) (hx:Ai w ok x ce) (hl:cp.length=7):Ot w ok (p,x) (cp++ce)
theorem Fj:E3 Ot:=fun _ _ _ _ _ _ h hs=>by cases h with|mk hp hx hl=>exact .mk (hp.keep hs) (hx.keep hs) hl
theorem Bf.len{w:World}{ok:Nat→Prop}{x:Av}{cs:List Value}(h:Bf w ok x cs):cs.length=7:=by cases h;rfl
theorem Ai.len{w:World}{ok:Nat→Prop}{x:Ah}{cs:List Value}(h:Ai w ok x cs):cs.length=8:=by cases h;rfl
abbrev Lu:=Aj Ai 27 8
abbrev RowP:=Aj Bf 62 7
abbrev RowS:=Aj StrE 9 1
abbrev RowA:=Aj Ot 64 15
theorem Ai.of_rows{w:World}{ok:Nat→Prop}{k a:Int}{nm:LB}{n:Int}{s:LB}{ls:List LB}{args:List Ah}{arms:List (Av×Ah)}{v5 v6 v7:Value}{c5 c6 c7:Nat→List Value}
  (h5:RowS w ok v5 ls c5) (h6:Lu w ok v6 args c6) (h7:RowA w ok v7 arms c7):
  Ai w ok (.mk k a nm n s ls args arms) [vI k,vI a,vS nm,vI n,vS s,v5,v6,v7]:=by
 have key:∀ (i:Nat) (p:Av) (x:Ah),arms[i]?=some (p,x)→c7 i=(c7 i).take 7++(c7 i).drop 7∧Bf w ok p ((c7 i).take 7)∧Ai w ok x ((c7 i).drop 7):=fun i p x hi=>by
  have:=h7.el Fj i _ hi
  generalize c7 i=C at *
  cases this with
  | mk hp hx hl=>exact⟨by simp,by rw[← hl,List.take_left];exact hp,by rw[← hl,List.drop_left];exact hx⟩
 refine .mk c5 c6 (fun i=>(c7 i).take 7) (fun i=>(c7 i).drop 7) h5.sl (fun i x hi=>h5.el Cr i x hi) h6.sl (fun i x hi=>h6.el Al i x hi) ?_ (fun i p x hi=>(key i p x hi).2.1) (fun i p x hi=>(key i p x hi).2.2);have:=h7.sl;simpa only[List.take_append_drop] using this
theorem Bf.of_rows{w:World}{ok:Nat→Prop}{k a:Int}{nm:LB}{n:Int}{s:LB}{ls:List LB}{args:List Av}{v5 v6:Value}{c5 c6:Nat→List Value}
  (h5:RowS w ok v5 ls c5) (h6:RowP w ok v6 args c6):
  Bf w ok (.mk k a nm n s ls args) [vI k,vI a,vS nm,vI n,vS s,v5,v6] :=
 .mk c5 c6 h5.sl (fun i x hi=>h5.el Cr i x hi) h6.sl (fun i x hi=>h6.el En i x hi)
section
open Go.RowKit Go.Shelf
def AbC{β:Type}(Bs B:Nat)(J:β→World→Prop):Prop:=AbidesFrom B J∧∀ s W v,J s W→J s (W.setCell ⟨Bs,0,none⟩ v)
def Ov{α:Type}(F:Fence)(n:Nat)(P:Program)(gf:Nat)(lb:Array Value)(encs:α→Array Value)(Bs B:Nat)(S Sp:List α→Prop)(N:Nat)(w:World):Prop :=
 ∀ (l:Nat) (J Jx:List α→World→Prop) (W:World),Below B w W→AbC Bs W.heap.size J→AbC Bs W.heap.size Jx →
  (∀ pre x W1,J pre W1→pre.length<N→YieldAt F (n-1) P l (encs x) W1 fun e W' =>
   (e = .returned (.bool true)∧J (pre++[x]) W'∧Below B W1 W')∨(e = .returned (.bool false)∧Jx (pre++[x]) W'))→
  J [] W →
  CallsIn F n P gf (#[.func (.yield l) #[] #[]]++lb) W fun e W'=>(∃ v,e = .returned v)∧((∃ xs,S xs∧J xs W')∨(∃ pre,Sp pre∧Jx pre W'))
theorem Bb{W:World}{b k:Nat}{v:Value}(h:k≠b):(W.setCell ⟨b,0,none⟩ v).heap[k]?=W.heap[k]?:=by
 simp[World.setCell,Array.getElem?_modify,Ne.symm h]
section
variable {F:Fence} {n:Nat} {P:Program}
theorem Od{α:Type}{g:Operand}{ps:Array Tmp}{assign body:Code}{Q:Exit→Act→World→Prop}{a:Act}{w:World}
  (hro:F.round=none) (h1:1≤n) {gf:Nat} {lb:Array Value} (hg:a.eval g = .func (.func gf) #[] lb) (hFg:F.fn gf) (eg:∀ args w,(callFunc gf args).run P w = .ok (.enter gf args) w)
  {encs:α→Array Value} {S Sp:List α→Prop} {N Bs:Nat} (hBs:Bs<w.heap.size) (hseq:Ov F (n-1) P gf lb encs Bs w.heap.size S Sp N w) (hps:∀ x,(encs x).size=ps.size)
  (I Ix:List α→World→Prop) (hI:OwnFrom w.heap.size I) (hIc:∀ s W v,I s W→I s (W.setCell ⟨Bs,0,none⟩ v)) (hIx:OwnFrom w.heap.size Ix) (hIxc:∀ s W v,Ix s W→Ix s (W.setCell ⟨Bs,0,none⟩ v)) (h0:I [] w) (a₁:α→Act)
  (hassign:∀ (l:Nat) (x:α) (W:World) (K:Act→World→Prop),K (a₁ x) W →
   assign.wpIn (F.inRound l) (n-1-1) P (Exit.then K (fun _ _ _=>False)) { tmps:=(ps.zip (encs x)).foldl (fun t (p,v)=>t.setIfInBounds p v) a.tmps,defers:=[] } W)
  (hbody:∀ (l:Nat) (pre:List α) (x:α) (W:World),I pre W→pre.length<N→body.wpIn (F.inRound l) (n-1-1) P (fun e _ W'=>match e with
   | .normal=>KeepsOthers W W'∧Below w.heap.size W W'∧I (pre++[x]) W'
   | .ret=>KeepsOthers W W'∧Ix (pre++[x]) W'
   | _=>False) (a₁ x) W)
  (hdone:∀ (D:Nat) (xs:List α) (W:World),w.heap.size≤D→S xs→I xs W→W.heap[D]?=some (.deferred (some []))→Q .normal { a with defers:={ target:=.collected D,args:=#[] }::a.defers } W)
  (hstop:∀ (D:Nat) (pre:List α) (W:World),w.heap.size≤D→Sp pre→Ix pre W→W.heap[D]?=some (.deferred (some []))→Code.ret.wpIn F n P Q { a with defers:={ target:=.collected D,args:=#[] }::a.defers } W):
  (Code.rangeFunc g ps assign body).wpIn F n P Q a w:=by
 refine wpIn_rangeFunc ?_;intro fn hfn;rw[hro]
 obtain⟨rec,hrec⟩:∃ rec:LoopState→Option Code→Loop,rec=fun st pe=>{ state:=st,pending:=pe,fn,tmps:=a.tmps,params:=ps,assign,body,defers:=w.heap.size }:=⟨_,rfl⟩
 obtain⟨W1,hW1⟩:∃ W1,(w.alloc (.deferred (some []))).alloc (.loop (rec .ready none))=W1:=⟨_,rfl⟩
 have hLoop:W1.heap[w.heap.size+1]?=some (.loop (rec .ready none)):=by
  have:=World.alloc_heap_new (w.alloc (.deferred (some []))) (.loop (rec .ready none));rw[World.size_alloc] at this;rw[← hW1];exact this
 have hDef:W1.heap[w.heap.size]?=some (.deferred (some [])):=by
  rw[← hW1];exact(Below.heap_alloc _ _ _ (by simp)).trans (World.alloc_heap_new w _)
 have hI1:I [] W1:=by rw[← hW1];exact hI.alloc _ (hI.alloc _ h0)
 have hb1:Below w.heap.size w W1:=by rw[← hW1];exact((Below.refl _ w).alloc (Nr' _) _).alloc (by simp) _
 refine⟨w.heap.size+1,[{ target:=.collected w.heap.size,args:=#[] }],W1,{ target:=.fn (.func gf) lb,args:=#[.func (.yield (w.heap.size+1)) #[] #[]] },W1,gf,
  #[.func (.yield (w.heap.size+1)) #[] #[]]++lb,W1,?_,?_,?_,?_,fun _=>h1,?_⟩
 ·rw[← hW1,hrec];exact run_enterLoop_outer _ _ _ _ _
 ·simp only[resolve,hg];simp[go_sem]
 ·intro f' hf';simp[Target.leads] at hf';subst hf';exact hFg
 ·simp[invoke,go_sem,eg]
 ·have cellsOf:∀ {A B:World} {row:Option Nat},(∀ r,row=some r→W1.heap.size≤r∧∃ o:Obj,A.heap[r]?=some o∧o.isWalk=true)→(∀ r,row=some r→w.heap.size≤r∧∃ o:Obj,A.heap[r]?=some o∧o.isCells=false):=
   fun hr r e=>by obtain⟨hB,o,ho,hw⟩:=hr r e;exact⟨Nat.le_trans hb1.size hB,o,ho,Obj.not_cells_of_walk hw⟩
  have nl:w.heap.size+1≠Bs:=by omega
  have nd:w.heap.size≠Bs:=by omega
  refine(hseq (w.heap.size+1)
   (fun pre W=>I pre W∧W.heap[w.heap.size+1]?=some (.loop (rec .ready none))∧W.heap[w.heap.size]?=some (.deferred (some [])))
   (fun pre W=>Ix pre W∧W.heap[w.heap.size+1]?=some (.loop (rec .done (some .ret)))∧W.heap[w.heap.size]?=some (.deferred (some [])))
   W1 hb1
   ⟨fun s A B row hs hg' hr=>⟨hI s A B row hs.1 hg' (cellsOf (B:=B) hr),(grownBy_keeps hg' (fun r e=>(hr r e).2) hs.2.1 rfl).trans hs.2.1,(grownBy_keeps hg' (fun r e=>(hr r e).2) hs.2.2 rfl).trans hs.2.2⟩,
    fun s A v hs=>⟨hIc s A v hs.1,(Bb nl).trans hs.2.1,(Bb nd).trans hs.2.2⟩⟩
   ⟨fun s A B row hs hg' hr=>⟨hIx s A B row hs.1 hg' (cellsOf (B:=B) hr),(grownBy_keeps hg' (fun r e=>(hr r e).2) hs.2.1 rfl).trans hs.2.1,(grownBy_keeps hg' (fun r e=>(hr r e).2) hs.2.2 rfl).trans hs.2.2⟩,
    fun s A v hs=>⟨hIxc s A v hs.1,(Bb nl).trans hs.2.1,(Bb nd).trans hs.2.2⟩⟩
   ?_ ⟨hI1,hLoop,hDef⟩).mono ?_
  ·rintro pre x W ⟨hi,hl,hk⟩ hlen;have hy:=run_yield (P:=P) (args:=encs x) hl (by rw[hrec];exact hps x);rw[hrec] at hy;refine⟨fn,_,assign,body,hy,roundIn_of_wpIn hfn (hassign _ x W _ ⟨_,run_beginRound hl (by rw[hrec]),?_⟩)⟩;have busy:(W.putObj (w.heap.size+1) (.loop { rec .ready none with state:=.busy })).heap[w.heap.size+1]?=some (.loop { rec .ready none with state:=.busy }):=World.putObj_heap_same (Array.getElem?_eq_some_iff.1 hl).1;have defd:(W.putObj (w.heap.size+1) (.loop { rec .ready none with state:=.busy })).heap[w.heap.size]?=some (.deferred (some [])):=(World.putObj_heap_other (by omega)).trans hk;have bel:∀ (V:World) (o:Obj),w.heap.size+1<V.heap.size→Below w.heap.size V (V.putObj (w.heap.size+1) o):=fun V o hv=>(Below.refl _ V).grown (grownBy_putObj' V (w.heap.size+1) o) (by omega) (fun k e=>by cases e;omega)
   refine wpIn_mono (hbody _ pre x _ (hI.putObj _ hi (by omega) hl rfl) hlen) ?_
   have ends:∀ (jump:Option Code) (V:World),KeepsOthers (W.putObj (w.heap.size+1) (.loop { rec .ready none with state:=.busy })) V →
     (Instr.endRound (w.heap.size+1) jump).run P V = .ok (.bool jump.isNone) (V.putObj (w.heap.size+1) (.loop (rec (if jump.isNone then .ready else .done) jump)))∧
     V.heap[w.heap.size+1]?=some (.loop { rec .ready none with state:=.busy })∧
     (V.putObj (w.heap.size+1) (.loop (rec (if jump.isNone then .ready else .done) jump))).heap[w.heap.size+1]?=some (.loop (rec (if jump.isNone then .ready else .done) jump))∧
     (V.putObj (w.heap.size+1) (.loop (rec (if jump.isNone then .ready else .done) jump))).heap[w.heap.size]?=some (.deferred (some [])):=fun jump V hk3=>by
    have hl3:=hk3.same _ _ busy rfl;have:=run_endRound (P:=P) jump hl3;rw[hrec] at this ⊢;exact⟨this,by rw[hrec] at hl3;exact hl3,World.putObj_heap_same (Array.getElem?_eq_some_iff.1 hl3).1,(World.putObj_heap_other (by omega)).trans (hk3.same _ _ defd rfl)⟩
   rintro e a3 V hp
   cases e with
   | normal =>
    obtain⟨hk3,hb3,hi3⟩:=hp;obtain⟨hr,hl3,hl4,hk4⟩:=ends none V hk3
    exact⟨_,_,hr,.inl ⟨rfl,⟨hI.putObj _ hi3 (by omega) hl3 rfl,hl4,hk4⟩,((bel _ _ (Array.getElem?_eq_some_iff.1 hl).1).trans hb3).trans (bel _ _ (Array.getElem?_eq_some_iff.1 hl3).1)⟩⟩
   | ret =>
    obtain⟨hk3,hi3⟩:=hp;obtain⟨hr,hl3,hl4,hk4⟩:=ends (some .ret) V hk3
    exact⟨_,_,hr,.inr ⟨rfl,hIx.putObj _ hi3 (by omega) hl3 rfl,hl4,hk4⟩⟩
   | exit id=>exact hp.elim
   | goto t=>exact hp.elim
   | panic ch=>exact hp.elim
   | outgrown=>exact hp.elim
  ·rintro e V ⟨⟨v,rfl⟩,(⟨xs,hS,hi,hl,hk⟩| ⟨pre,hSp,hi,hl,hk⟩)⟩
   ·exact⟨none,_,by have:=run_endLoop (P:=P) hl (by rw[hrec];simp);rw[hrec] at this;exact this,hdone _ xs _ (Nr' _) hS (hI.putObj _ hi (by omega) hl rfl) ((World.putObj_heap_other (by omega)).trans hk)⟩
   ·exact⟨some .ret,_,by have:=run_endLoop (P:=P) hl (by rw[hrec];simp);rw[hrec] at this;exact this,hstop _ pre _ (Nr' _) hSp (hIx.putObj _ hi (by omega) hl rfl) ((World.putObj_heap_other (by omega)).trans hk)⟩
end
end
theorem Az{P:Program}{w:World}{ops:Array Oper}{o:Oper}{a:Act}{K:Act→World→Prop}{Q:Exit→Act→World→Prop}{E:Prop}(hgd:o.guard=none)(s x:Operand)(t:TypeId)
  (ho:o.op = .call { callee:=.builtin .append,args:=#[s,x],argTypes:=#[t,t] })
  (e:TypeId) (i:TypeInfo) (z:Value) (size bytes:Nat) (ht:P.underlying t=some (.slice e)) (hi:P.info? e=some i) (hz:i.zero=some z)
  (hsize:i.size=size) (hby:i.bytes=bytes) (hzs:z.cells.size=size) (hsz:0<size)
  (v:Value) (n:Nat) (xs:List Value) (hs:a.eval s=v) (hown:w.ownsRow 0 e size v n xs)
  (ad:Addr) (m c:Nat) (news:List Value) (hx:a.eval x = .slice (some ad) m c) (hl:news.length=m * size) (hnews:∀ j u,news[j]?=some u→w.cell? (ad.add j)=some u) (h1:∀ u ∈ news,u.oneCell'=true)
  (h63:n+m≤maxLen) (hbytes:(n+m)* bytes≤140737488355328)
  (h:∀ v' w',w'.ownsRow 0 e size v' (n+m) (xs++news)→w.grownBy w' v.ownBlock→Lt v v' w.heap.size→K (a.put o.dst v') w'):
  if Region.wanted o (yielded ops a.tmps)=true then Oper.wp P o a w K Q else E:=by
 have hw:Region.wanted o (yielded ops a.tmps)=true:=by simp[Region.wanted,hgd]
 rw[if_pos hw];obtain⟨v',w',hr,h2,h3,h4⟩:=G9 (P:=P) w t o.type e i z size bytes ht hi hz hsize hby hzs hsz v n xs hown ad m c news hl hnews h1 h63 hbytes;unfold Oper.wp execOp;simp only[ho,resolve,invoke,builtin,Sem.run_bind,Sem.run_pure,Result.andThen_ok,List.map_toArray,List.map_cons,List.map_nil,hs,hx,hr];exact h v' w' h2 h3 h4
theorem B9{w:World}{b:Nat}{T:TypeId}{size:Nat}{v:Value}{n:Nat}{xs:List Value}(h:w.ownsRow b T size v (n+1) xs):∃ g cap,v = .slice (some ⟨g,0,none⟩) (n+1) cap:=by
 rcases h.2 with⟨_,hn⟩| ⟨g,cap,cur,hv,_⟩
 ·omega
 ·exact⟨g,cap,hv⟩
theorem Aj.own_lt{α:Type}{E:World→(Nat→Prop)→α→List Value→Prop}{T:TypeId}{size:Nat}{w:World}{ok:Nat→Prop}{v:Value}{xs:List α}{cs:Nat→List Value}(h:Aj E T size w ok v xs cs)(g:Nat)(hg:v.ownBlock=some g):g<w.heap.size:=by
 rcases h.own.2 with⟨hv,_⟩| ⟨g',cap,cur,hv,_,h2,_⟩
 ·rw[hv] at hg;simp[Value.ownBlock] at hg
 ·rw[hv] at hg;simp[Value.ownBlock] at hg;subst hg;exact(Array.getElem?_eq_some_iff.1 h2).1
end Go.Proofs.YtpjkfeehgookkaaGreatDoor
