/- A part of the proof: Pe, Pk, Ra, Ho, Rb, Na, Ng. -/
import Derived.Test.YtlafbbnikgcdlaaGreatDoorRows
import Derived.Deep.AppendLies
import Derived.Deep.RegionHeld3
import Derived.Test.YtlafbbnikgcdlaaGreatDoorKb1
namespace Go.Proofs.YtlafbbnikgcdlaaGreatDoor
open Go.RowKit
set_option linter.all false
set_option maxHeartbeats 16000000
set_option maxRecDepth 100000
variable{p:Prop}
open List renaming length_append→La',cons_append→Lp'
open Nat renaming lt_of_lt_of_le→Nl',le_refl→Nr'
def CellsAt(w:World)(g o:Nat)(cs:List Value):Prop:=∀ (j:Nat)(v:Value),cs[j]?=some v→w.cell? ⟨g,o+j,none⟩=some v
def En(w:World)(ok:Nat→Prop)(v:Value)(n size:Nat)(cs:Nat→List Value):Prop :=
 (∃ A c,v = .slice A 0 c∧n=0)∨∃ g o c,v = .slice (some ⟨g,o,none⟩) n c∧ok g∧g<w.heap.size∧n≤c∧∀ i,i<n→(cs i).length=size∧CellsAt w g (o+i * size) (cs i)
theorem En.form{w:World}{ok:Nat→Prop}{v:Value}{n size:Nat}{cs:Nat→List Value}(h:En w ok v n size cs):∃ A c,v = .slice A n c:=by
 rcases h with⟨A,c,rfl,rfl⟩| ⟨g,o,c,rfl,_⟩
 ·exact⟨A,c,rfl⟩
 ·exact⟨_,_,rfl⟩
theorem En.len{w:World}{ok:Nat→Prop}{A:Option Addr}{m c n size:Nat}{cs:Nat→List Value}(h:En w ok (.slice A m c) n size cs):m=n:=by
 obtain⟨A',c',e⟩:=h.form;cases e;rfl
theorem En.row{w:World}{ok:Nat→Prop}{A:Option Addr}{n m c size:Nat}{cs:Nat→List Value}(h:En w ok (.slice A m c) n size cs){i:Nat}(hi:i<n):∃ g o,A=some ⟨g,o,none⟩∧m=n∧g<w.heap.size∧ok g∧(cs i).length=size∧∀ (j:Nat)(v:Value),(cs i)[j]?=some v→w.cell? ⟨g,o+i * size+j,none⟩=some v:=by
 rcases h with⟨_,_,_,h⟩| ⟨g,o,c',hv,hg,hgs,_,hcs⟩
 ·omega
 ·cases hv;obtain⟨h1,h2⟩:=hcs i hi;exact⟨g,o,rfl,rfl,hgs,hg,h1,h2⟩
theorem En.cap{w:World}{ok:Nat→Prop}{A:Option Addr}{n m c size:Nat}{cs:Nat→List Value}(h:En w ok (.slice A m c) n size cs)(hn:0<n):n≤c:=by
 rcases h with⟨_,_,_,h⟩| ⟨g,o,c',hv,_,_,hnc,_⟩
 ·omega
 ·cases hv;exact hnc
def Gk(s:LB):List Value:=[vS s]
inductive Bw (w:World)(ok:Nat→Prop):Al→List Value→Prop
 | mk {k a nm n s ls args v5 v6} (c5 c6:Nat→List Value) (h5:En w ok v5 ls.length 1 c5) (e5:∀ (i:Nat) (x:LB),ls[i]?=some x→c5 i=Gk x)
   (h6:En w ok v6 args.length 7 c6) (e6:∀ (i:Nat) (x:Al),args[i]?=some x→Bw w ok x (c6 i)):
   Bw w ok (.mk k a nm n s ls args) [vI k,vI a,vS nm,vI n,vS s,v5,v6]
inductive Ak (w:World)(ok:Nat→Prop):Ad→List Value→Prop
 | mk {k a nm n s ls args arms v5 v6 v7} (c5 c6 cp ce:Nat→List Value) (h5:En w ok v5 ls.length 1 c5) (e5:∀ (i:Nat) (x:LB),ls[i]?=some x→c5 i=Gk x)
   (h6:En w ok v6 args.length 8 c6) (e6:∀ (i:Nat) (x:Ad),args[i]?=some x→Ak w ok x (c6 i))
   (h7:En w ok v7 arms.length 15 (fun i=>cp i++ce i)) (e7:∀ (i:Nat) (p:Al) (x:Ad),arms[i]?=some (p,x)→Bw w ok p (cp i)) (e8:∀ (i:Nat) (p:Al) (x:Ad),arms[i]?=some (p,x)→Ak w ok x (ce i)):
   Ak w ok (.mk k a nm n s ls args arms) [vI k,vI a,vS nm,vI n,vS s,v5,v6,v7]
def Sh(w w':World)(ok ok':Nat→Prop):Prop:=∀ b,ok b→b<w.heap.size→ok' b∧w'.heap[b]?=w.heap[b]?∧b<w'.heap.size
theorem En.keep{w w':World}{ok ok':Nat→Prop}{v:Value}{n size:Nat}{cs:Nat→List Value}(h:En w ok v n size cs)(hs:Sh w w' ok ok'):En w' ok' v n size cs:=by
 rcases h with h|⟨g,o,c,rfl,hg,hlt,hnc,hc⟩
 ·exact .inl h
 ·obtain⟨h1,h2,h3⟩:=hs g hg hlt;refine .inr ⟨g,o,c,rfl,h1,h3,hnc,fun i hi=>⟨(hc i hi).1,fun j u hu=>?_⟩⟩;rw[World.cell?_of_block (w:=w) (w':=w') (a:=⟨g,o+i * size+j,none⟩) h2];exact(hc i hi).2 j u hu
theorem Bw.keep{w w':World}{ok ok':Nat→Prop}{x:Al}{cs:List Value}(h:Bw w ok x cs)(hs:Sh w w' ok ok'):Bw w' ok' x cs:=by
 induction h with
 | mk c5 c6 h5 e5 h6 e6 ih=>exact .mk c5 c6 (h5.keep hs) e5 (h6.keep hs) ih
theorem Ak.keep{w w':World}{ok ok':Nat→Prop}{x:Ad}{cs:List Value}(h:Ak w ok x cs)(hs:Sh w w' ok ok'):Ak w' ok' x cs:=by
 exact qq183
theorem En.nil_(w:World)(ok:Nat→Prop)(size:Nat)(cs:Nat→List Value):En w ok (vZ) 0 size cs:=.inl ⟨none,0,rfl,rfl⟩
def Co(cs:Nat→List Value)(n:Nat):List Value:=(List.range n).flatMap cs
theorem J4(cs:Nat→List Value)(n:Nat):Co cs (n+1)=Co cs n++cs n:=by simp[Co,List.range_succ]
theorem W3{cs ds:Nat→List Value}{n:Nat}(h:∀ i,i<n→cs i=ds i):Co cs n=Co ds n:=by
 induction n with
 | zero=>rfl
 | succ n ih=>rw[J4,J4,ih (fun i hi=>h i oM),h n oM]
theorem flatN_len{cs:Nat→List Value}{size n:Nat}(h:∀ i,i<n→(cs i).length=size):(Co cs n).length=n * size:=by
 induction n with
 | zero=>simp[Co]
 | succ n ih=>rw[J4,La',ih (fun i hi=>h i oM),h n oM,Nat.succ_mul]
theorem W2{cs:Nat→List Value}{size:Nat}:∀ {n:Nat},(∀ i,i<n→(cs i).length=size)→∀ i,i<n→∀ (j:Nat)(v:Value),(cs i)[j]?=some v→(Co cs n)[i * size+j]?=some v
 | 0,_,i,hi,_,_,_=>by omega
 | n+1,h,i,hi,j,v,hj=>by
  have hl:=flatN_len (n:=n) (fun i hi=>h i oM);have hjs:j<size:=by rw[← h i hi];exact(List.getElem?_eq_some_iff.1 hj).1
  rw[J4];by_cases e:i=n
  ·subst e;rw[List.getElem?_append_right oM,hl,Nat.add_sub_cancel_left];exact hj
  ·have:i * size+j<n * size:=by
    have:=Nat.mul_le_mul_right size (show i+1≤n by omega);rw[Nat.succ_mul] at this;omega
   rw[List.getElem?_append_left oM];exact W2 (fun i hi=>h i oM) i oM j v hj
section
variable {α:Type} (E:World→(Nat→Prop)→α→List Value→Prop)
def Fy:Prop:=∀ (w w':World)(ok ok':Nat→Prop)(x:α)(cs:List Value),E w ok x cs→Sh w w' ok ok'→E w' ok' x cs
structure An (T size:Nat)(w:World)(ok:Nat→Prop)(v:Value)(xs:List α)(cs:Nat→List Value):Prop where
 own:w.ownsRow 0 T size v xs.length (Co cs xs.length)
 len:∀ i,i<xs.length→(cs i).length=size
 blk:∀ g,v.ownBlock=some g→ok g
 all:∀ (i:Nat) (x:α),xs[i]?=some x→E w (fun b=>ok b∧v.ownBlock≠some b) x (cs i)
end
section
variable {α:Type} {E:World→(Nat→Prop)→α→List Value→Prop} {T size:Nat} {w w':World} {ok ok':Nat→Prop} {v:Value} {xs:List α} {cs:Nat→List Value}
theorem An.nil_:An E T size w ok (vZ) ([]:List α) cs:=⟨⟨by simp[Co],.inl ⟨rfl,rfl⟩⟩,fun i hi=>by simp at hi,fun g hg=>by simp[Value.ownBlock] at hg,fun i x h=>by simp at h⟩
theorem An.lit(hK:Fy E){x:α}{c:List Value}(hx:E w ok x c)(hl:c.length=size)(hok:ok w.heap.size):
  An E T size (w.alloc (.cells c.toArray T)) ok (.slice (some ⟨w.heap.size,0,none⟩) 1 1) [x] (fun _=>c):=by
 refine⟨?_,fun i hi=>hl,fun g hg=>?_,fun i y hy=>?_⟩
 ·have:=World.ownsRow_lit (base:=0) (e:=T) (size:=size) w c.toArray 1 (Nat.zero_le _) dC (by simp[hl]);simpa [Co] using this
 ·simp[Value.ownBlock] at hg;subst hg;exact hok
 ·have hi:i=0:=by
   rcases i with _|i
   ·rfl
   ·simp at hy
  subst hi;simp at hy;subst hy;refine hK _ _ _ _ _ _ hx (fun b hb hlt=>⟨⟨hb,by simp[Value.ownBlock];omega⟩,Below.heap_alloc _ _ _ hlt,by simp;omega⟩)
theorem An.lit2(hK:Fy E){x y:α}{c d:List Value}(hx:E w ok x c)(hy:E w ok y d)(hc:c.length=size)(hd:d.length=size)(hok:ok w.heap.size):
  An E T size (w.alloc (.cells (c++d).toArray T)) ok (.slice (some ⟨w.heap.size,0,none⟩) 2 2) [x,y] (fun i=>if i=0 then c else d):=by
 refine⟨?_,fun i hi=>by split <;> assumption,fun g hg=>?_,fun i z hz=>?_⟩
 ·have:=World.ownsRow_lit (base:=0) (e:=T) (size:=size) w (c++d).toArray 2 (Nat.zero_le _) dC (by simp[hc,hd];omega);simpa [Co,List.range_succ] using this
 ·simp[Value.ownBlock] at hg;subst hg;exact hok
 ·have hs:Sh w (w.alloc (.cells (c++d).toArray T)) ok (fun b=>ok b∧(Value.slice (some ⟨w.heap.size,0,none⟩) 2 2).ownBlock≠some b):=fun b hb hlt=>⟨⟨hb,by simp[Value.ownBlock];omega⟩,Below.heap_alloc _ _ _ hlt,by simp;omega⟩
  match i,hz with
  | 0,hz=>simp at hz;subst hz;exact hK _ _ _ _ _ _ hx hs
  | 1,hz=>simp at hz;subst hz;exact hK _ _ _ _ _ _ hy hs
  | i+2,hz=>simp at hz
theorem An.keep(hK:Fy E)(h:An E T size w ok v xs cs)(hs:Sh w w' ok ok'):An E T size w' ok' v xs cs:=by
 obtain⟨hown,hl,hb,ha⟩:=h;refine⟨⟨hown.1,?_⟩,hl,fun g hg=>?_,fun i x hx=>hK _ _ _ _ _ _ (ha i x hx) (fun b hb' hlt=>⟨⟨(hs b hb'.1 hlt).1,hb'.2⟩,(hs b hb'.1 hlt).2⟩)⟩
 ·rcases hown.2 with h|⟨g,cap,cur,rfl,h1,h2,h3⟩
  ·exact .inl h
  ·have hlt:g<w.heap.size:=(Array.getElem?_eq_some_iff.1 h2).1;exact .inr ⟨g,cap,cur,rfl,h1,(hs g (hb g rfl) hlt).2.1.trans h2,h3⟩
 ·rcases hown.2 with⟨rfl,_⟩| ⟨g',cap,cur,rfl,h1,h2,h3⟩
  ·simp[Value.ownBlock] at hg
  ·simp[Value.ownBlock] at hg;subst hg;exact(hs g' (hb g' rfl) (Array.getElem?_eq_some_iff.1 h2).1).1
theorem An.app(hK:Fy E)(h:An E T size w ok v xs cs){x:α}{c:List Value}{okx:Nat→Prop}(hx:E w okx x c)(hl:c.length=size)(hav:∀ b,okx b→b<w.heap.size→ok b∧v.ownBlock≠some b)
  {v':Value} (hown:w'.ownsRow 0 T size v' (xs.length+1) (Co cs xs.length++c)) (hg:w.grownBy w' v.ownBlock) (hfp:Qb v v' w.heap.size) (hnew:∀ b,w.heap.size≤b→ok b):
  An E T size w' ok v' (xs++[x]) (fun i=>if i=xs.length then c else cs i):=by
 have hne:∀ b,b<w.heap.size→v.ownBlock≠some b→v'.ownBlock≠some b:=fun b hlt hn he=>by
  rcases hfp b he with h1|h1
  ·exact hn h1
  ·omega
 have hs:∀ b,b<w.heap.size→v.ownBlock≠some b→w'.heap[b]?=w.heap[b]?∧b<w'.heap.size:=fun b hlt hn=>⟨hg.block b hlt (fun e=>hn e.symm),Nl' hlt hg.size⟩
 refine⟨?_,fun i hi=>?_,fun g hg'=>?_,fun i y hy=>?_⟩
 ·have e:Co (fun i=>if i=xs.length then c else cs i) (xs++[x]).length=Co cs xs.length++c:=by
   rw[La',List.length_singleton,J4,if_pos rfl]
   congr 1
   exact W3 (fun i hi=>by rw[if_neg oM])
  rw[e,La',List.length_singleton];exact hown
 ·rw[La',List.length_singleton] at hi;show(if i=xs.length then c else cs i).length=size;split
  ·exact hl
  ·exact h.len i oM
 ·rcases hfp g hg' with h1|h1
  ·exact h.blk g h1
  ·exact hnew g h1
 ·show E w' _ y (if i=xs.length then c else cs i);by_cases e:i=xs.length
  ·subst e;rw[if_pos rfl];simp at hy;subst hy;exact hK _ _ _ _ _ _ hx (fun b hb hlt=>⟨⟨(hav b hb hlt).1,hne b hlt (hav b hb hlt).2⟩,hs b hlt (hav b hb hlt).2⟩)
  ·rw[if_neg e]
   have hi:i<xs.length:=by
    have:=(List.getElem?_eq_some_iff.1 hy).1;rw[La',List.length_singleton] at this;omega
   rw[List.getElem?_append_left hi] at hy;exact hK _ _ _ _ _ _ (h.all i y hy) (fun b hb hlt=>⟨⟨hb.1,hne b hlt hb.2⟩,hs b hlt hb.2⟩)
theorem An.sl(h:An E T size w ok v xs cs):En w ok v xs.length size cs:=by
 have hown:=h.own
 rcases hown.2 with⟨h0,hn⟩| ⟨g,cap,cur,rfl,_,h2,hnc,_,_,ht⟩
 ·exact .inl ⟨none,0,h0,hn⟩
 ·refine .inr ⟨g,0,cap,rfl,h.blk g rfl,(Array.getElem?_eq_some_iff.1 h2).1,hnc,fun i hi=>⟨h.len i hi,fun j u hu=>?_⟩⟩;rw[Nat.zero_add];have hj:j<size:=by rw[← h.len i hi];exact(List.getElem?_eq_some_iff.1 hu).1
  have hb:i * size+j<xs.length * size:=by
   have:=Nat.mul_le_mul_right size (show i+1≤xs.length by omega);rw[Nat.succ_mul] at this;omega
  rw[World.ownsRow.cellAt hown (i * size+j) hb];exact W2 h.len i hi j u hu
theorem An.el(hK:Fy E)(h:An E T size w ok v xs cs)(i:Nat)(x:α)(hi:xs[i]?=some x):E w ok x (cs i):=
 hK _ _ _ _ _ _ (h.all i x hi) (fun _ hb hlt=>⟨hb.1,rfl,hlt⟩)
end
theorem As:Fy Ak:=fun _ _ _ _ _ _ h hs=>h.keep hs
theorem Jh:Fy Bw:=fun _ _ _ _ _ _ h hs=>h.keep hs
def StrE(_:World)(_:Nat→Prop)(s:LB)(cs:List Value):Prop:=cs=Gk s
theorem Cg:Fy StrE:=fun _ _ _ _ _ _ h _=>h
inductive ArmAt (w:World)(ok:Nat→Prop):Al×Ad→List Value→Prop
 | mk {p x cp ce} (hp:Bw w ok p cp) (hx:Ak w ok x ce) (hl:cp.length=7):ArmAt w ok (p,x) (cp++ce)
theorem Kt:Fy ArmAt:=fun _ _ _ _ _ _ h hs=>by cases h with|mk hp hx hl=>exact .mk (hp.keep hs) (hx.keep hs) hl
theorem Bw.len{w:World}{ok:Nat→Prop}{x:Al}{cs:List Value}(h:Bw w ok x cs):cs.length=7:=by cases h;rfl
theorem Ak.len{w:World}{ok:Nat→Prop}{x:Ad}{cs:List Value}(h:Ak w ok x cs):cs.length=8:=by cases h;rfl
abbrev Wc:=An Ak 27 8
abbrev RowP:=An Bw 123 7
abbrev Gp:=An StrE 9 1
abbrev RowA:=An ArmAt 125 15
theorem Ak.of_rows{w:World}{ok:Nat→Prop}{k a:Int}{nm:LB}{n:Int}{s:LB}{ls:List LB}{args:List Ad}{arms:List (Al×Ad)}{v5 v6 v7:Value}{c5 c6 c7:Nat→List Value}
  (h5:Gp w ok v5 ls c5) (h6:Wc w ok v6 args c6) (h7:RowA w ok v7 arms c7):
  Ak w ok (.mk k a nm n s ls args arms) [vI k,vI a,vS nm,vI n,vS s,v5,v6,v7]:=by
 have key:∀ (i:Nat) (p:Al) (x:Ad),arms[i]?=some (p,x)→c7 i=(c7 i).take 7++(c7 i).drop 7∧Bw w ok p ((c7 i).take 7)∧Ak w ok x ((c7 i).drop 7):=fun i p x hi=>by
  have:=h7.el Kt i _ hi;exact qq206
 refine .mk c5 c6 (fun i=>(c7 i).take 7) (fun i=>(c7 i).drop 7) h5.sl (fun i x hi=>h5.el Cg i x hi) h6.sl (fun i x hi=>h6.el As i x hi) ?_ (fun i p x hi=>(key i p x hi).2.1) (fun i p x hi=>(key i p x hi).2.2);have:=h7.sl;simpa only[List.take_append_drop] using this
theorem Bw.of_rows{w:World}{ok:Nat→Prop}{k a:Int}{nm:LB}{n:Int}{s:LB}{ls:List LB}{args:List Al}{v5 v6:Value}{c5 c6:Nat→List Value}
  (h5:Gp w ok v5 ls c5) (h6:RowP w ok v6 args c6):
  Bw w ok (.mk k a nm n s ls args) [vI k,vI a,vS nm,vI n,vS s,v5,v6] :=
 .mk c5 c6 h5.sl (fun i x hi=>h5.el Cg i x hi) h6.sl (fun i x hi=>h6.el Jh i x hi)
theorem Av{P:Program}{w:World}{ops:Array Oper}{o:Oper}{a:Act}{K:Act→World→Prop}{Q:Exit→Act→World→Prop}{E:Prop}(hgd:o.guard=none)(s x:Operand)(t:TypeId)
  (ho:o.op = .call { callee:=.builtin .append,args:=#[s,x],argTypes:=#[t,t] })
  (e:TypeId) (i:TypeInfo) (z:Value) (size bytes:Nat) (ht:P.underlying t=some (.slice e)) (hi:P.info? e=some i) (hz:i.zero=some z)
  (hsize:i.size=size) (hby:i.bytes=bytes) (hzs:z.cells.size=size) (hsz:0<size)
  (v:Value) (n:Nat) (xs:List Value) (hs:a.eval s=v) (hown:w.ownsRow 0 e size v n xs)
  (ad:Addr) (m c:Nat) (news:List Value) (hx:a.eval x = .slice (some ad) m c) (hl:news.length=m * size) (hnews:∀ j u,news[j]?=some u→w.cell? (ad.add j)=some u) (h1:∀ u ∈ news,u.oneCell'=true)
  (h63:n+m≤maxLen) (hbytes:(n+m)* bytes≤140737488355328)
  (h:∀ v' w',w'.ownsRow 0 e size v' (n+m) (xs++news)→w.grownBy w' v.ownBlock→Qb v v' w.heap.size→K (a.put o.dst v') w'):
  if Region.wanted o (yielded ops a.tmps)=true then Oper.wp P o a w K Q else E:=by
 have hw:Region.wanted o (yielded ops a.tmps)=true:=by simp[Region.wanted,hgd]
 rw[if_pos hw];obtain⟨v',w',hr,h2,h3,h4⟩:=Ns (P:=P) w t o.type e i z size bytes ht hi hz hsize hby hzs hsz v n xs hown ad m c news hl hnews h1 h63 hbytes;unfold Oper.wp execOp;simp only[ho,resolve,invoke,builtin,Sem.run_bind,Sem.run_pure,Result.andThen_ok,List.map_toArray,List.map_cons,List.map_nil,hs,hx,hr];exact h v' w' h2 h3 h4
theorem Cd{w:World}{b:Nat}{T:TypeId}{size:Nat}{v:Value}{n:Nat}{xs:List Value}(h:w.ownsRow b T size v (n+1) xs):∃ g cap,v = .slice (some ⟨g,0,none⟩) (n+1) cap:=by
 rcases h.2 with⟨_,hn⟩| ⟨g,cap,cur,hv,_⟩
 ·omega
 ·exact⟨g,cap,hv⟩
theorem An.own_lt{α:Type}{E:World→(Nat→Prop)→α→List Value→Prop}{T:TypeId}{size:Nat}{w:World}{ok:Nat→Prop}{v:Value}{xs:List α}{cs:Nat→List Value}(h:An E T size w ok v xs cs)(g:Nat)(hg:v.ownBlock=some g):g<w.heap.size:=by
 rcases h.own.2 with⟨hv,_⟩| ⟨g',cap,cur,hv,_,h2,_⟩
 ·rw[hv] at hg;simp[Value.ownBlock] at hg
 ·rw[hv] at hg;simp[Value.ownBlock] at hg;subst hg;exact(Array.getElem?_eq_some_iff.1 h2).1
inductive Bp where
 | mk (k v n:Int) (s:LB) (ls:List LB) (args:List Bp)
inductive At where
 | mk (k a v n:Int) (s:LB) (ls:List LB) (args:List At) (cases:List (Bp×At))
def At.zero:At:=.mk 0 0 0 0 [] [] [] []
structure Sc where
 l:List (List UInt8×Int)
 n:Int
 e:Int
 at_:Int
def Sc.fail(S:Sc)(e a:Int):Sc:=if S.e=0 then ⟨S.l,S.n,e,a⟩else S
def Sc.bind(S:Sc)(nm:LB):Sc:=⟨if nm=[95] then S.l else S.l++[(nm,S.n)],S.n+1,S.e,S.at_⟩
def Sc.cut(S:Sc)(m:Nat):Sc:=⟨S.l.take m,S.n,S.e,S.at_⟩
def Jo(nm:LB):List (List UInt8×Int)→Option Int
 | []=>none
 | b::l=>match Jo nm l with
  | some v=>some v
  | none=>if b.1=nm then some b.2 else none
def Sc.find(S:Sc)(nm:LB)(a:Int):Int×Sc:=match Jo nm S.l with
 | some v=>(v,S)
 | none=>(0,S.fail 23 a)
def Ni:List LB→Bool
 | []=>false
 | x::l=>l.contains x||Ni l
def Sc.labels(S:Sc)(ls:List LB)(a:Int):Sc:=if Ni ls=true then S.fail 24 a else S
mutual
def tmP:Al→Nat→Sc→Bp×Sc
 | .mk k a nm n s ls args,m,S =>
  let r:=Bt args m (if k=2 then (if (S.l.drop m).any (fun b=>b.1==nm)=true then S.fail 24 a else S).bind nm else if k=9 then S.labels ls a else S)
  (.mk k (if k=2 then S.n else 0) n (if k=7∨k=8 then nm else s) (if k=9 then ls else []) r.1,r.2)
def Bt:List Al→Nat→Sc→List Bp×Sc
 | [],_,S=>([],S)
 | x::l,m,S =>
  let r:=tmP x m S
  let q:=Bt l m r.2
  (r.1::q.1,q.2)
end
def Pi(b:Option LB)(S:Sc):Sc:=match b with
 | some nm=>S.bind nm
 | none=>S
def Lx(k a n:Int)(nm s:LB)(l:List At):At :=
 .mk (if k=2∨k=3∨k=4∨k=5∨k=6∨k=8∨k=11∨k=13∨k=14∨k=15∨k=18∨k=19 then k else 0) a 0 n (s++nm) [] l []
def Ri(a n:Int):At:=.mk 4 a 0 n [] [] [] []
def Pv(a v:Int):At:=.mk 1 a v 0 [] [] [] []
def orT(a:Int):List At→List At
 | []=>[]
 | x::l=>x::Ri a 1::l
def Y0(a v:Int)(c:List (Bp×At)):At:=.mk 16 a 0 0 [] [] [Pv a v] (c++[(.mk 1 0 0 [] [] [],.mk 18 a 0 0 [] [] [Pv a v] [])])
mutual
def tmE:Ad→Sc→At×Sc
 | .mk k a nm n s ls args arms,S =>
  if k=1 then (Pv a (S.find nm a).1,(S.find nm a).2)
  else if k=7 then
   let r:=Bf args none (S.bind nm)
   (.mk 7 a S.n 0 [] [] r.1 [],r.2.2.cut S.l.length)
  else if k=9∨k=20 then
   let r:=Bf args (some (if k=20 then [95] else nm)) S
   (.mk 9 a r.2.1 0 [] [] r.1 [],r.2.2.cut S.l.length)
  else if k=10 then
   let r:=Bf args none (S.bind nm)
   (.mk 10 a S.n 0 [] [] r.1 [],r.2.2.cut S.l.length)
  else if k=12 then
   let r:=Bf args none (S.labels ls a)
   (.mk 12 a 0 0 [] ls r.1 [],r.2.2)
  else if k=16 then
   let r:=Bf args none S
   let q:=Eb arms r.2.2
   (.mk 16 a 0 0 [] [] r.1 q.1,q.2)
  else if k=17 then
   let r:=Bf args (some [95]) S
   let q:=Eb arms r.2.2
   (.mk 17 a r.2.1 0 [] [] (r.1++[Y0 a r.2.1 q.1]) [],q.2)
  else if k=21 then
   let r:=Bf args none S
   (.mk 11 a 0 0 [] [] (r.1++[Ri a 0]) [],r.2.2)
  else if k=22 then
   let r:=Bf args none S
   (.mk 11 a 0 0 [] [] (orT a r.1) [],r.2.2)
  else
   let r:=Bf args none S
   (Lx k a n nm s r.1,r.2.2)
/-- terms one behind the other;behind the first one a name may be bound,whose variable is told -/
def Bf:List Ad→Option LB→Sc→List At×Int×Sc
 | [],_,S=>([],0,S)
 | x::l,b,S =>
  let r:=tmE x S
  let q:=Bf l none (Pi b r.2)
  (r.1::q.1,r.2.n,q.2.2)
def Eb:List (Al×Ad)→Sc→List (Bp×At)×Sc
 | [],S=>([],S)
 | x::l,S =>
  let r:=tmA x S
  let q:=Eb l r.2
  (r.1::q.1,q.2)
def tmA:Al×Ad→Sc→(Bp×At)×Sc
 | (p,x),S =>
  let r:=tmP p S.l.length S
  let q:=tmE x r.2
  ((r.1,q.1),q.2.cut S.l.length)
end
def Sc.zero:Sc:=⟨[],0,0,0⟩
def Ql(x:Ad):At×Int×Int:=if (tmE x .zero).2.e=0 then ((tmE x .zero).1,0,0)else (.zero,(tmE x .zero).2.e,(tmE x .zero).2.at_)
def Eg(s:LB):Bool:=match s with
 | []=>false
 | c::_=>C8 c&&Aw (95::s)
structure Lm where
 name:Bool
 n:Bool
 s:Bool
 labels:Bool
 args:Nat
 arms:Bool
def D4(n:Int):Nat:=if n=6∨n=9∨n=10∨n=11∨n=16∨n=17∨n=20∨n=21 then 1 else if n=15 then 3 else 2
def Cc(k n:Int)(nl:Nat):Option Lm :=
 if k=1∨k=6 then some ⟨true,false,false,false,0,false⟩
 else if k=2∨k=4 then some ⟨false,true,false,false,0,false⟩
 else if k=3 then some ⟨false,false,true,false,0,false⟩
 else if k=5 then some ⟨false,false,false,false,0,false⟩
 else if k=7∨k=14∨k=15 then some ⟨true,false,false,false,1,false⟩
 else if k=8∨k=20∨k=21∨k=22 then some ⟨false,false,false,false,2,false⟩
 else if k=9∨k=10∨k=13 then some ⟨true,false,false,false,2,false⟩
 else if k=11 then some ⟨false,false,false,false,3,false⟩
 else if k=12 then some ⟨false,false,false,true,nl,false⟩
 else if k=16∨k=17 then some ⟨false,false,false,false,1,true⟩
 else if k=18 then some ⟨false,false,false,false,1,false⟩
 else if k=19∧1≤n∧n≤21 then some ⟨false,true,false,false,D4 n,false⟩
 else none
def Ah(h:Lm)(nm:LB)(n:Int)(s:LB)(nl na ma:Nat):Bool :=
 (h.name||nm.isEmpty)&&(h.n||n==0)&&(h.s||s.isEmpty)&&(h.labels||nl==0)&&(na==h.args)&&(decide (0<ma)==h.arms)
def Ff:Int:=4611686018427387903
def Bq(k:Int)(nm:LB)(n:Int)(ls:List LB)(k0:Int):Bool :=
 if k=1∨k=7∨k=9∨k=13∨k=14 then Aw nm
 else if k=10 then Aw nm&&k0==7
 else if k=6∨k=15 then Eg nm
 else if k=2 then decide (0≤n)&&decide (n≤Ff)
 else if k=4 then n==0||n==1
 else if k=12 then ls.all Aw
 else true
def Ad.k_:Ad→Int
 | .mk k _ _ _ _ _ _ _=>k
def Er(l:List Ad):Int:=match l with
 | []=>0
 | x::_=>x.k_
def D3(k:Int)(nm:LB)(n:Int)(s:LB)(ls:List LB)(na ma:Nat)(k0:Int):Bool :=
 (match Cc k n ls.length with|some h=>Ah h nm n s ls.length na ma|none=>false)&&Bq k nm n ls k0
def Ez(k:Int)(nl:Nat):Option Lm :=
 if k=2∨k=7 then some ⟨true,false,false,false,0,false⟩
 else if k=3∨k=5 then some ⟨false,true,false,false,0,false⟩
 else if k=4 then some ⟨false,false,true,false,0,false⟩
 else if k=8 then some ⟨true,false,false,false,1,false⟩
 else if k=9 then some ⟨false,false,false,true,nl,false⟩
 else if k=1∨k=6 then some ⟨false,false,false,false,0,false⟩
 else none
def E3(k:Int)(nm:LB)(n:Int)(ls:List LB):Bool :=
 if k=2 then Aw nm && !(nm==[95])
 else if k=7∨k=8 then Eg nm
 else if k=3 then decide (-Ff≤n)&&decide (n≤Ff)
 else if k=5 then n==0||n==1
 else if k=9 then ls.all Aw
 else true
def Hm(k:Int)(nm:LB)(n:Int)(s:LB)(ls:List LB)(na:Nat):Bool :=
 (match Ez k ls.length with|some h=>Ah h nm n s ls.length na 0|none=>false)&&E3 k nm n ls
mutual
def Fb:Al→Bool
 | .mk k _ nm n s ls args=>Hm k nm n s ls args.length&&Dt args
def Dt:List Al→Bool
 | []=>true
 | x::l=>Fb x&&Dt l
end
mutual
def Bh:Ad→Bool
 | .mk k _ nm n s ls args arms=>D3 k nm n s ls args.length arms.length (Er args)&&Ax args&&Bd arms
def Ax:List Ad→Bool
 | []=>true
 | x::l=>Bh x&&Ax l
def Bd:List (Al×Ad)→Bool
 | []=>true
 | x::l=>mayA x&&Bd l
def mayA:Al×Ad→Bool
 | (p,x)=>Fb p&&Bh x
end
def Ir(n:Int):LB:=if n=1 then [116,114,117,101] else [102,97,108,115,101]
def Fj(n:Int):LB :=
 if n=1 then [43] else if n=2 then [45] else if n=3 then [42] else if n=4 then [47] else if n=5 then [37] else if n=6 then [45] else if n=7 then [61] else if n=8 then [60] else if n=9 then [110,111,116] else if n=10 then [114,101,102] else if n=11 then [33] else if n=12 then [58,61] else if n=13 then [97,114,114,97,121] else if n=14 then [103,101,116] else if n=15 then [115,101,116] else if n=16 then [108,101,110] else if n=17 then [115,105,122,101] else if n=18 then [98,121,116,101] else if n=19 then [99,97,116] else if n=20 then [103,101,116,99] else if n=21 then [112,117,116,99] else []
def Jj:Bool→List LB→List LB→List UInt8
 | _,[],_=>[]
 | _,_::_,[]=>[]
 | f,x::ls,t::l=>(if f=true then [] else [44,32])++(x++([32,61,32]++(t++Jj false ls l)))
def J3:Bool→List (List UInt8×LB)→List UInt8
 | _,[]=>[]
 | f,(p,t)::l=>(if f=true then [] else [32,124,32])++(p++([32,45,62,32]++(t++J3 false l)))
def Ik:List LB→List UInt8
 | []=>[]
 | t::l=>32::(t++Ik l)
def opT(n:Int)(l:List LB):LB :=
 if n=6∨n=9∨n=11 then Fj n++(32::l.getD 0 [])
 else if n≤8∨n=12 then l.getD 0 []++(32::(Fj n++(32::l.getD 1 [])))
 else Fj n++Ik l
def Ia(l:LB):LB:=(l.drop 1).dropLast
def Bv(k:Int)(nm:LB)(n:Int)(l:List LB)(m:List (List UInt8×LB)):LB :=
 if k=7 then [102,117,110,32]++(nm++([32,45,62,32]++l.getD 0 []))
 else if k=8 then l.getD 0 []++(32::l.getD 1 [])
 else if k=9 then [108,101,116,32]++(nm++([32,61,32]++(l.getD 0 []++([32,105,110,32]++l.getD 1 []))))
 else if k=10 then [108,101,116,32,114,101,99,32]++(nm++([32,61,32]++(Ia (l.getD 0 [])++([32,105,110,32]++l.getD 1 []))))
 else if k=11 then [105,102,32]++(l.getD 0 []++([32,116,104,101,110,32]++(l.getD 1 []++([32,101,108,115,101,32]++l.getD 2 []))))
 else if k=15 then 35::(nm++(32::l.getD 0 []))
 else if k=16 then [109,97,116,99,104,32]++(l.getD 0 []++([32,119,105,116,104,32]++(J3 true m++[32,101,110,100])))
 else if k=17 then [116,114,121,32]++(l.getD 0 []++([32,119,105,116,104,32]++(J3 true m++[32,101,110,100])))
 else if k=18 then [114,97,105,115,101,32]++l.getD 0 []
 else if k=20 then l.getD 0 []++([59,32]++l.getD 1 [])
 else if k=21 then l.getD 0 []++([32,38,38,32]++l.getD 1 [])
 else if k=22 then l.getD 0 []++([32,124,124,32]++l.getD 1 [])
 else opT n l
def E4(k:Int)(nm:LB)(n:Int)(s:LB)(ls:List LB)(l:List LB)(m:List (List UInt8×LB)):LB :=
 if k=1∨k=6 then nm
 else if k=2 then Lib.itoa n
 else if k=3 then Dr s
 else if k=4 then Ir n
 else if k=5 then [40,41]
 else if k=14 then l.getD 0 []++(46::nm)
 else if k=12 then 123::(Jj true ls l++[125])
 else if k=13 then 123::(l.getD 0 []++([32,119,105,116,104,32]++(nm++([32,61,32]++(l.getD 1 []++[125])))))
 else 40::(Bv k nm n l m++[41])
def Ow(k:Int)(nm:LB)(n:Int)(s:LB)(ls:List LB)(l:List LB):LB :=
 if k=1 then [95]
 else if k=2∨k=7 then nm
 else if k=3 then Lib.itoa n
 else if k=4 then Dr s
 else if k=5 then Ir n
 else if k=6 then [40,41]
 else if k=8 then 40::35::(nm++(32::(l.getD 0 []++[41])))
 else 123::(Jj true ls l++[125])
mutual
def txP:Al→List UInt8
 | .mk k _ nm n s ls args=>Ow k nm n s ls (Ih args)
def Ih:List Al→List LB
 | []=>[]
 | x::l=>txP x::Ih l
end
mutual
def txE:Ad→List UInt8
 | .mk k _ nm n s ls args arms=>E4 k nm n s ls (Bj args) (Dp arms)
def Bj:List Ad→List LB
 | []=>[]
 | x::l=>txE x::Bj l
def Dp:List (Al×Ad)→List (List UInt8×LB)
 | []=>[]
 | x::l=>txA x::Dp l
def txA:Al×Ad→List UInt8×List UInt8
 | (p,x)=>(txP p,txE x)
end
theorem Lr(S:Sc)(e a:Int):(S.fail e a).l=S.l∧(S.fail e a).n=S.n:=by
 unfold Sc.fail;split <;> exact⟨rfl,rfl⟩
theorem K9(S:Sc)(ls:List LB)(a:Int):(S.labels ls a).l=S.l∧(S.labels ls a).n=S.n:=by
 unfold Sc.labels;split
 ·exact Lr _ _ _
 ·exact qq288
def Fz(S:Sc):Prop:=0≤S.n∧∀ b ∈ S.l,0≤b.2∧b.2<S.n
theorem Fz.fail{S:Sc}(h:Fz S)(e a:Int):Fz (S.fail e a):=by
 obtain⟨h1,h2⟩:=Lr S e a;unfold Fz;rw[h1,h2];exact h
theorem Fz.labels{S:Sc}(h:Fz S)(ls:List LB)(a:Int):Fz (S.labels ls a):=by
 obtain⟨h1,h2⟩:=K9 S ls a;unfold Fz;rw[h1,h2];exact h
theorem Fz.bind{S:Sc}(h:Fz S)(nm:LB):Fz (S.bind nm):=by
 refine⟨by have:=h.1;simp only[Sc.bind];omega,fun b hb=>?_⟩;simp only[Sc.bind] at hb ⊢;split at hb
 ·have:=h.2 b hb;omega
 ·rcases List.mem_append.1 hb with hb|hb
  ·have:=h.2 b hb;omega
  ·simp at hb;subst hb;have:=h.1;dsimp only;omega
theorem Fz.cut{S:Sc}(h:Fz S)(m:Nat):Fz (S.cut m):=⟨h.1,fun b hb=>h.2 b (List.mem_of_mem_take hb)⟩
theorem Fz.find{S:Sc}(h:Fz S)(nm:LB)(a:Int):Fz (S.find nm a).2:=by
 unfold Sc.find;split
 ·exact h
 ·exact h.fail _ _
theorem Fz.mid{S:Sc}(h:Fz S)(b:Option LB):Fz (Pi b S):=by
 cases b with
 | none=>exact h
 | some nm=>exact h.bind nm
def preP(k a:Int)(nm:LB)(ls:List LB)(m:Nat)(S:Sc):Sc:=if k=2 then (if (S.l.drop m).any (fun b=>b.1==nm)=true then S.fail 24 a else S).bind nm else if k=9 then S.labels ls a else S
theorem Hl(k a:Int)(nm:LB)(n:Int)(s:LB)(ls:List LB)(args:List Al)(m:Nat)(S:Sc):tmP (.mk k a nm n s ls args) m S=(.mk k (if k=2 then S.n else 0) n (if k=7∨k=8 then nm else s) (if k=9 then ls else []) (Bt args m (preP k a nm ls m S)).1,(Bt args m (preP k a nm ls m S)).2):=by
 rw[tmP];rfl
theorem Ul(a:Int)(nm:LB)(n:Int)(s:LB)(ls:List LB)(args:List Ad)(arms:List (Al×Ad))(S:Sc):tmE (.mk 1 a nm n s ls args arms) S=(Pv a (S.find nm a).1,(S.find nm a).2):=by rw[tmE];rfl
theorem Um(a:Int)(nm:LB)(n:Int)(s:LB)(ls:List LB)(args:List Ad)(arms:List (Al×Ad))(S:Sc):tmE (.mk 7 a nm n s ls args arms) S=(.mk 7 a S.n 0 [] [] (Bf args none (S.bind nm)).1 [],(Bf args none (S.bind nm)).2.2.cut S.l.length):=by rw[tmE];rfl
theorem Sx(k a:Int)(hk:k=9∨k=20)(nm:LB)(n:Int)(s:LB)(ls:List LB)(args:List Ad)(arms:List (Al×Ad))(S:Sc):tmE (.mk k a nm n s ls args arms) S=(.mk 9 a (Bf args (some (if k=20 then [95] else nm)) S).2.1 0 [] [] (Bf args (some (if k=20 then [95] else nm)) S).1 [],(Bf args (some (if k=20 then [95] else nm)) S).2.2.cut S.l.length):=by rw[tmE];rcases hk with rfl|rfl <;> rfl
theorem Pn(a:Int)(nm:LB)(n:Int)(s:LB)(ls:List LB)(args:List Ad)(arms:List (Al×Ad))(S:Sc):tmE (.mk 10 a nm n s ls args arms) S=(.mk 10 a S.n 0 [] [] (Bf args none (S.bind nm)).1 [],(Bf args none (S.bind nm)).2.2.cut S.l.length):=by rw[tmE];rfl
theorem Po(a:Int)(nm:LB)(n:Int)(s:LB)(ls:List LB)(args:List Ad)(arms:List (Al×Ad))(S:Sc):tmE (.mk 12 a nm n s ls args arms) S=(.mk 12 a 0 0 [] ls (Bf args none (S.labels ls a)).1 [],(Bf args none (S.labels ls a)).2.2):=by rw[tmE];rfl
theorem Pp(a:Int)(nm:LB)(n:Int)(s:LB)(ls:List LB)(args:List Ad)(arms:List (Al×Ad))(S:Sc):tmE (.mk 16 a nm n s ls args arms) S=(.mk 16 a 0 0 [] [] (Bf args none S).1 (Eb arms (Bf args none S).2.2).1,(Eb arms (Bf args none S).2.2).2):=by rw[tmE];rfl
theorem Pq(a:Int)(nm:LB)(n:Int)(s:LB)(ls:List LB)(args:List Ad)(arms:List (Al×Ad))(S:Sc):tmE (.mk 17 a nm n s ls args arms) S=(.mk 17 a (Bf args (some [95]) S).2.1 0 [] [] ((Bf args (some [95]) S).1++[Y0 a (Bf args (some [95]) S).2.1 (Eb arms (Bf args (some [95]) S).2.2).1]) [],(Eb arms (Bf args (some [95]) S).2.2).2):=by rw[tmE];rfl
theorem Pr(a:Int)(nm:LB)(n:Int)(s:LB)(ls:List LB)(args:List Ad)(arms:List (Al×Ad))(S:Sc):tmE (.mk 21 a nm n s ls args arms) S=(.mk 11 a 0 0 [] [] ((Bf args none S).1++[Ri a 0]) [],(Bf args none S).2.2):=by rw[tmE];rfl
theorem Ps(a:Int)(nm:LB)(n:Int)(s:LB)(ls:List LB)(args:List Ad)(arms:List (Al×Ad))(S:Sc):tmE (.mk 22 a nm n s ls args arms) S=(.mk 11 a 0 0 [] [] (orT a (Bf args none S).1) [],(Bf args none S).2.2):=by rw[tmE];rfl
theorem Li{k:Int}(h:¬ (k=1∨k=7∨k=9∨k=20∨k=10∨k=12∨k=16∨k=17∨k=21∨k=22))(a:Int)(nm:LB)(n:Int)(s:LB)(ls:List LB)(args:List Ad)(arms:List (Al×Ad))(S:Sc):tmE (.mk k a nm n s ls args arms) S=(Lx k a n nm s (Bf args none S).1,(Bf args none S).2.2):=by
 rw[tmE];rw[if_neg oM,if_neg oM,if_neg oM,if_neg oM,if_neg oM,if_neg oM,if_neg oM,if_neg oM,if_neg oM]
theorem Ho(k:Int):k=1∨k=7∨(k=9∨k=20)∨k=10∨k=12∨k=16∨k=17∨k=21∨k=22∨¬ (k=1∨k=7∨k=9∨k=20∨k=10∨k=12∨k=16∨k=17∨k=21∨k=22):=by omega
inductive Cs (w:World)(ok:Nat→Prop):Bp→List Value→Prop
 | mk {k v n s ls args v4 v5} (c4 c5:Nat→List Value) (h4:En w ok v4 ls.length 1 c4) (e4:∀ (i:Nat) (x:LB),ls[i]?=some x→c4 i=Gk x)
   (h5:En w ok v5 args.length 6 c5) (e5:∀ (i:Nat) (x:Bp),args[i]?=some x→Cs w ok x (c5 i)):
   Cs w ok (.mk k v n s ls args) [vI k,vI v,vI n,vS s,v4,v5]
inductive Au (w:World)(ok:Nat→Prop):At→List Value→Prop
 | mk {k a v n s ls args cases v5 v6 v7} (c5 c6 cp ce:Nat→List Value) (h5:En w ok v5 ls.length 1 c5) (e5:∀ (i:Nat) (x:LB),ls[i]?=some x→c5 i=Gk x)
   (h6:En w ok v6 args.length 8 c6) (e6:∀ (i:Nat) (x:At),args[i]?=some x→Au w ok x (c6 i))
   (h7:En w ok v7 cases.length 14 (fun i=>cp i++ce i)) (e7:∀ (i:Nat) (p:Bp) (x:At),cases[i]?=some (p,x)→Cs w ok p (cp i)) (e8:∀ (i:Nat) (p:Bp) (x:At),cases[i]?=some (p,x)→Au w ok x (ce i)):
   Au w ok (.mk k a v n s ls args cases) [vI k,vI a,vI v,vI n,vS s,v5,v6,v7]
theorem Cs.keep{w w':World}{ok ok':Nat→Prop}{x:Bp}{cs:List Value}(h:Cs w ok x cs)(hs:Sh w w' ok ok'):Cs w' ok' x cs:=by
 induction h with
 | mk c4 c5 h4 e4 h5 e5 ih=>exact .mk c4 c5 (h4.keep hs) e4 (h5.keep hs) ih
theorem Au.keep{w w':World}{ok ok':Nat→Prop}{x:At}{cs:List Value}(h:Au w ok x cs)(hs:Sh w w' ok ok'):Au w' ok' x cs:=by
 exact qq183
theorem Cs.len{w:World}{ok:Nat→Prop}{x:Bp}{cs:List Value}(h:Cs w ok x cs):cs.length=6:=by cases h;rfl
theorem Au.len{w:World}{ok:Nat→Prop}{x:At}{cs:List Value}(h:Au w ok x cs):cs.length=8:=by cases h;rfl
theorem Br:Fy Cs:=fun _ _ _ _ _ _ h hs=>h.keep hs
theorem D9:Fy Au:=fun _ _ _ _ _ _ h hs=>h.keep hs
inductive J0 (w:World)(ok:Nat→Prop):Bp×At→List Value→Prop
 | mk {p x cp ce} (hp:Cs w ok p cp) (hx:Au w ok x ce) (hl:cp.length=6):J0 w ok (p,x) (cp++ce)
theorem Gt:Fy J0:=fun _ _ _ _ _ _ h hs=>by cases h with|mk hp hx hl=>exact .mk (hp.keep hs) (hx.keep hs) hl
theorem J0.len{w:World}{ok:Nat→Prop}{x:Bp×At}{cs:List Value}(h:J0 w ok x cs):cs.length=14:=by cases h with|mk hp hx hl=>rw[La',hl,hx.len]
abbrev J2:=An Au 34 8
abbrev Gc:=An Cs 76 6
abbrev Qc:=An J0 78 14
theorem Au.of_sl{w:World}{ok:Nat→Prop}{k a v n:Int}{s:LB}{ls:List LB}{args:List At}{cases:List (Bp×At)}{v5 v6 v7:Value}{c5 c6 c7:Nat→List Value}
  (h5:En w ok v5 ls.length 1 c5) (e5:∀ (i:Nat) (x:LB),ls[i]?=some x→c5 i=Gk x) (h6:En w ok v6 args.length 8 c6) (e6:∀ (i:Nat) (x:At),args[i]?=some x→Au w ok x (c6 i))
  (h7:En w ok v7 cases.length 14 c7) (e7:∀ (i:Nat) (x:Bp×At),cases[i]?=some x→J0 w ok x (c7 i)):
  Au w ok (.mk k a v n s ls args cases) [vI k,vI a,vI v,vI n,vS s,v5,v6,v7]:=by
 have key:∀ (i:Nat) (p:Bp) (x:At),cases[i]?=some (p,x)→c7 i=(c7 i).take 6++(c7 i).drop 6∧Cs w ok p ((c7 i).take 6)∧Au w ok x ((c7 i).drop 6):=fun i p x hi=>by
  have:=e7 i _ hi;exact qq206
 refine .mk c5 c6 (fun i=>(c7 i).take 6) (fun i=>(c7 i).drop 6) h5 e5 h6 e6 ?_ (fun i p x hi=>(key i p x hi).2.1) (fun i p x hi=>(key i p x hi).2.2);simpa only[List.take_append_drop] using h7
theorem Au.of_rows{w:World}{ok:Nat→Prop}{k a v n:Int}{s:LB}{ls:List LB}{args:List At}{cases:List (Bp×At)}{v5 v6 v7:Value}{c5 c6 c7:Nat→List Value}
  (h5:Gp w ok v5 ls c5) (h6:J2 w ok v6 args c6) (h7:Qc w ok v7 cases c7):
  Au w ok (.mk k a v n s ls args cases) [vI k,vI a,vI v,vI n,vS s,v5,v6,v7] :=
 .of_sl h5.sl (fun i x hi=>h5.el Cg i x hi) h6.sl (fun i x hi=>h6.el D9 i x hi) h7.sl (fun i x hi=>h7.el Gt i x hi)
theorem Au.leaf{w:World}{ok:Nat→Prop}(k a v n:Int)(s:LB):
  Au w ok (.mk k a v n s [] [] []) [vI k,vI a,vI v,vI n,vS s,vZ,vZ,vZ] :=
 .of_rows (c5:=fun _=>[]) (c6:=fun _=>[]) (c7:=fun _=>[]) An.nil_ An.nil_ An.nil_
theorem Cs.of_rows{w:World}{ok:Nat→Prop}{k v n:Int}{s:LB}{ls:List LB}{args:List Bp}{v4 v5:Value}{c4 c5:Nat→List Value}
  (h4:Gp w ok v4 ls c4) (h5:Gc w ok v5 args c5):
  Cs w ok (.mk k v n s ls args) [vI k,vI v,vI n,vS s,v4,v5] :=
 .mk c4 c5 h4.sl (fun i x hi=>h4.el Cg i x hi) h5.sl (fun i x hi=>h5.el Br i x hi)
def bndC(b:LB×Int):List Value:=[.string ⟨b.1.toArray⟩,vI b.2]
def Jn(l:List (List UInt8×Int)):List Value:=l.flatMap bndC
theorem bndsC_app(l m:List (List UInt8×Int)):Jn (l++m)=Jn l++Jn m:=by simp[Jn]
theorem Zc(l:List (List UInt8×Int))(m:Nat):Jn (l.take m)=(Jn l).take (m * 2):=by
 induction l generalizing m with
 | nil=>simp[Jn]
 | cons b l ih =>
  cases m with
  | zero=>simp[Jn]
  | succ m =>
   have h:=ih m;simp only[Jn,List.take_succ_cons,List.flatMap_cons] at h ⊢;rw[h,show(m+1)* 2=(bndC b).length+m * 2 by simp[bndC];omega,List.take_length_add_append]
theorem bndsC_at{l:List (List UInt8×Int)}{i:Nat}{b:LB×Int}(h:l[i]?=some b):(Jn l)[i * 2]?=some (.string ⟨b.1.toArray⟩)∧(Jn l)[i * 2+1]?=some (vI b.2):=by
 induction l generalizing i with
 | nil=>simp at h
 | cons c l ih =>
  cases i with
  | zero=>simp at h;subst h;simp[Jn,bndC]
  | succ i =>
   have:=ih (i:=i) (by simpa using h);have e1:(i+1)* 2=i * 2+1+1:=by omega
   simp only[Jn,List.flatMap_cons,bndC,Lp',List.nil_append,e1,List.getElem?_cons_succ] at this ⊢;exact this
theorem P0{w:World}{e:TypeId}{size n cap m:Nat}{A:Option Addr}{xs:List Value}(h:w.ownsRow 0 e size (.slice A n cap) n xs)(hm:m≤n):w.ownsRow 0 e size (.slice A m cap) m (xs.take (m * size)):=by
 obtain⟨hl,h⟩:=h;have hmn:m * size≤n * size:=Nat.mul_le_mul_right _ hm;refine⟨by rw[List.length_take,hl];omega,?_⟩
 rcases h with⟨hv,hn⟩| ⟨g,c,cur,hv,hb,hg,hnc,hcm,hcs,ht⟩
 ·cases hv;exact .inl ⟨by rw[show m=0 by omega],oM⟩
 ·cases hv;refine .inr ⟨g,cap,cur,rfl,hb,hg,oM,hcm,hcs,?_⟩;rw[← ht,List.take_take]
  congr 1
  omega
theorem Oq{w:World}{e:TypeId}{size n:Nat}{v:Value}{xs:List Value}(h:w.ownsRow 0 e size v n xs):∃ A c,v = .slice A n c:=by
 rcases h.2 with⟨hv,hn⟩| ⟨g,c,cur,hv,_⟩
 ·exact⟨none,0,by rw[hv,hn]⟩
 ·exact⟨_,_,hv⟩
abbrev Rc:TypeId:=62
structure Dg (w0:World)(P:Nat)(S:Sc)(A:Option Addr)(c:Nat)(w:World):Prop where
 blk:w.heap[P]?=some (.cells #[.slice A S.l.length c,vI S.n,vI S.e,vI S.at_] Rc)
 row:w.ownsRow 0 149 2 (.slice A S.l.length c) S.l.length (Jn S.l)
 old:w0.heap.size≤P
 own:∀ a,A=some a→w0.heap.size≤a.block∧a.block≠P
 fr:Fr [] w0 w
def scL(P:Nat)(A:Option Addr):List Nat:=P::(A.map (·.block)).toList
theorem Ay{P k:Nat}{A:Option Addr}:k ∈ scL P A↔k=P∨∃ a,A=some a∧k=a.block:=by
 cases A <;> simp[scL]
section
variable {w0 w w':World} {P:Nat} {S:Sc} {A A':Option Addr} {c c':Nat}
theorem Dg.lt(h:Dg w0 P S A c w):P<w.heap.size:=Aa h.blk
theorem Dg.own_lt(h:Dg w0 P S A c w):∀ a,A=some a→a.block<w.heap.size:=fun a e=>by
 exact qq216
theorem Dg.addr(h:Dg w0 P S A c w):∀ a,A=some a→a=⟨a.block,0,none⟩:=fun a e=>by
 exact qq221
theorem Dg.le(h:Dg w0 P S A c w):w0.heap.size≤w.heap.size:=h.fr.size
theorem Dg.frL{L:List Nat}(h:Dg w0 P S A c w)(hf:Fr L w w')(hP:P ∉ L)(hA:∀ a,A=some a→a.block ∉ L)(hL:∀ x ∈ L,w0.heap.size≤x):Dg w0 P S A c w' :=
 ⟨hf.keep h.blk hP,Dv h.row hf (fun g e=>by cases A with|none=>cases e|some a=>cases e;exact hA a rfl),h.old,h.own,h.fr.step hf (fun x hx => .inr (hL x hx))⟩
theorem Dg.fr0(h:Dg w0 P S A c w)(hf:Fr [] w w'):Dg w0 P S A c w':=h.frL hf (fun x=>by cases x) (fun _ _ x=>by cases x) (fun _ x=>by cases x)
theorem Dg.cells(h:Dg w0 P S A c w):w.cell? ⟨P,0,none⟩=some (.slice A S.l.length c)∧w.cell? ⟨P,1,none⟩=some (vI S.n)∧w.cell? ⟨P,2,none⟩=some (vI S.e)∧w.cell? ⟨P,3,none⟩=some (vI S.at_)∧
  w.frozen? ⟨P,0,none⟩=false∧w.frozen? ⟨P,1,none⟩=false∧w.frozen? ⟨P,2,none⟩=false∧w.frozen? ⟨P,3,none⟩=false:=by
 have h:=h.blk;refine⟨?_,?_,?_,?_,Ap h _,Ap h _,Ap h _,Ap h _⟩<;> rw[Ab h] <;> rfl
theorem Dg.name(h:Dg w0 P S A c w){i:Nat}{b:LB×Int}(hb:S.l[i]?=some b):∃ g,A=some ⟨g,0,none⟩∧g<w.heap.size∧w.cell? ⟨g,i * 2,none⟩=some (.string ⟨b.1.toArray⟩)∧w.cell? ⟨g,i * 2+1,none⟩=some (vI b.2):=by
 have hi:=(List.getElem?_eq_some_iff.1 hb).1;obtain⟨h1,h2⟩:=bndsC_at hb
 rcases h.row.2 with⟨hv,hn⟩| ⟨g,cap,cur,hv,_,hg,_⟩
 ·omega
 ·cases hv;refine⟨g,rfl,Aa hg,?_,?_⟩
  ·rw[World.ownsRow.cellAt h.row (i * 2) oM];exact h1
  ·rw[World.ownsRow.cellAt h.row (i * 2+1) oM];exact h2
end
def Stp(w0:World)(P:Nat)(A:Option Addr)(w:World)(S':Sc)(A':Option Addr)(c':Nat)(w':World):Prop :=
 Dg w0 P S' A' c' w'∧Fr (scL P A) w w'∧∀ a,A'=some a→A=some a∨w.heap.size≤a.block
theorem Stp.refl{w0:World}{P:Nat}{S:Sc}{A:Option Addr}{c:Nat}{w:World}(h:Dg w0 P S A c w):Stp w0 P A w S A c w:=⟨h,Fr.refl _ _,fun a e => .inl e⟩
theorem Stp.trans{w0:World}{P:Nat}{A1 A2 A3:Option Addr}{S2 S3:Sc}{c2 c3:Nat}{w1 w2 w3:World}(h:Stp w0 P A1 w1 S2 A2 c2 w2)(k:Stp w0 P A2 w2 S3 A3 c3 w3):Stp w0 P A1 w1 S3 A3 c3 w3:=by
 obtain⟨h1,h2,h3⟩:=h;obtain⟨k1,k2,k3⟩:=k;refine⟨k1,h2.step k2 ?_,?_⟩
 ·intro x hx
  rcases Ay.1 hx with rfl|⟨a,e,rfl⟩
  ·exact .inl (Ay.2 (.inl rfl))
  ·rcases h3 a e with h|h
   ·exact .inl (Ay.2 (.inr ⟨a,h,rfl⟩))
   ·exact .inr h
 ·intro a e;rcases k3 a e with h|h
  ·exact h3 a h
  ·have:=h2.size;exact .inr oM
theorem Stp.fr0{w0:World}{P:Nat}{A A':Option Addr}{S':Sc}{c':Nat}{w w' w'':World}(h:Stp w0 P A w S' A' c' w')(hf:Fr [] w' w''):Stp w0 P A w S' A' c' w'':=⟨h.1.fr0 hf,h.2.1.trans0 hf,h.2.2⟩
theorem Stp.before{w0:World}{P:Nat}{A A':Option Addr}{S':Sc}{c':Nat}{v w w':World}(hf:Fr [] v w)(h:Stp w0 P A w S' A' c' w'):Stp w0 P A v S' A' c' w':=⟨h.1,(hf.mono (fun x hx=>by cases hx)).trans h.2.1,fun a e=>(h.2.2 a e).imp id (fun h=>by have:=hf.size;omega)⟩
section
open Go.RowKit Go.Shelf
section
variable {F:Fence} {n:Nat} {P:Program}
theorem nn179(h:p:=by
 cases e with
 | normal =>
  obtain⟨hk3,hb3,hi3⟩:=hp;obtain⟨hr,hl3,hl4,hk4⟩:=ends none V hk3
  exact⟨_,_,hr,.inl ⟨rfl,⟨hI.putObj _ hi3 oM hl3 rfl,hl4,hk4⟩,((hb0.trans (bel _ _ (Array.getElem?_eq_some_iff.1 hl).1)).trans hb3).trans (bel _ _ (Array.getElem?_eq_some_iff.1 hl3).1)⟩⟩
 | ret =>
  exact qq205
 | exit id=>exact hp.elim
 | goto t=>exact hp.elim
 | panic ch=>exact hp.elim
 | outgrown=>exact hp.elim):p:=h
theorem nn200(h:p:=by
 refine⟨w.heap.size+1,[{ target:=.collected w.heap.size,args:=#[] }],W1,{ target:=.fn (.func gf) lb,args:=#[.func (.yield (w.heap.size+1)) #[] #[]] },W1,gf,
  #[.func (.yield (w.heap.size+1)) #[] #[]]++lb,W1,?_,?_,?_,?_,fun _=>h1,?_⟩
 ·rw[← hW1,hrec];exact run_enterLoop_outer _ _ _ _ _
 ·simp only[resolve,hg];simp[go_sem]
 ·intro f' hf';simp[Target.leads] at hf';subst hf';exact hFg
 ·simp[invoke,go_sem,eg]
 ·have kqq147:=@Hz _ @nn356;exact qq147):p:=h
theorem nn289(h:p:=by
 refine wpIn_mono (hbody _ pre x _ W0.heap.size (hI.putObj _ hi oM hl rfl) ((World.putObj_heap_other oM).trans hT) oM hlen) ?_;have kqq67:=@Hz _ @nn179;exact qq67):p:=h
theorem nn356(h:p:=by
 refine(hseq (w.heap.size+1)
  (fun pre W=>I pre W∧W.heap[w.heap.size+1]?=some (.loop (rec .ready none))∧W.heap[w.heap.size]?=some (.deferred (some [])))
  (fun pre W=>Ix pre W∧W.heap[w.heap.size+1]?=some (.loop (rec .done (some .ret)))∧W.heap[w.heap.size]?=some (.deferred (some [])))
  W1 hb1
  ⟨fun s A B row hs hg' hr=>⟨hI s A B row hs.1 hg' (cellsOf (B:=B) hr),(grownBy_keeps hg' (fun r e=>(hr r e).2) hs.2.1 rfl).trans hs.2.1,(grownBy_keeps hg' (fun r e=>(hr r e).2) hs.2.2 rfl).trans hs.2.2⟩,
   fun s A v hs=>⟨hIc s A v hs.1,(Bg nl).trans hs.2.1,(Bg nd).trans hs.2.2⟩⟩
  ⟨fun s A B row hs hg' hr=>⟨hIx s A B row hs.1 hg' (cellsOf (B:=B) hr),(grownBy_keeps hg' (fun r e=>(hr r e).2) hs.2.1 rfl).trans hs.2.1,(grownBy_keeps hg' (fun r e=>(hr r e).2) hs.2.2 rfl).trans hs.2.2⟩,
   fun s A v hs=>⟨hIxc s A v hs.1,(Bg nl).trans hs.2.1,(Bg nd).trans hs.2.2⟩⟩
  ?_ ⟨hI1,hLoop,hDef⟩).mono ?_
 ·rintro pre x W0 ⟨hi0,hl0,hk0⟩ hlen;have hy:=run_yield (P:=P) (args:=encs x) hl0 (by rw[hrec];exact hps x);rw[hrec] at hy;have hlt0:w.heap.size+1<W0.heap.size:=(Array.getElem?_eq_some_iff.1 hl0).1
  obtain⟨W,hW⟩:∃ W,W0.alloc (o x)=W:=⟨_,rfl⟩
  have hi:I pre W:=by rw[← hW];exact hI.alloc _ hi0
  have hl:W.heap[w.heap.size+1]?=some (.loop (rec .ready none)):=by rw[← hW];exact(Below.heap_alloc _ _ _ hlt0).trans hl0
  have hk:W.heap[w.heap.size]?=some (.deferred (some [])):=by rw[← hW];exact(Below.heap_alloc _ _ _ oM).trans hk0
  have hT:W.heap[W0.heap.size]?=some (o x):=by rw[← hW];exact World.alloc_heap_new W0 _
  have hb0:Below w.heap.size W0 W:=by rw[← hW];exact(Below.refl _ W0).alloc oM _
  refine⟨fn,_,assign,body,hy,roundIn_of_wpIn hfn (hassign _ x W0 _ ?_)⟩;rw[hW];refine⟨_,run_beginRound hl (by rw[hrec]),?_⟩;have kqq107:=@Hz _ @nn289;exact qq107
 ·exact qq109):p:=h
theorem X9{α:Type}{g:Operand}{ps:Array Tmp}{assign body:Code}{Q:Exit→Act→World→Prop}{a:Act}{w:World}
  (hro:F.round=none) (h1:1≤n) {gf:Nat} {lb:Array Value} (hg:a.eval g = .func (.func gf) #[] lb) (hFg:F.fn gf) (eg:∀ args w,(callFunc gf args).run P w = .ok (.enter gf args) w)
  {encs:α→Array Value} {S Sp:List α→Prop} {N Bs:Nat} (hBs:Bs<w.heap.size) (hseq:Qn F (n-1) P gf lb encs Bs w.heap.size S Sp N w) (hps:∀ x,(encs x).size=ps.size)
  (I Ix:List α→World→Prop) (hI:OwnFrom w.heap.size I) (hIc:∀ s W v,I s W→I s (W.setCell ⟨Bs,0,none⟩ v)) (hIx:OwnFrom w.heap.size Ix) (hIxc:∀ s W v,Ix s W→Ix s (W.setCell ⟨Bs,0,none⟩ v)) (h0:I [] w) (a₁:Nat→α→Act) (o:α→Obj)
  (hassign:∀ (l:Nat) (x:α) (W:World) (K:Act→World→Prop),K (a₁ W.heap.size x) (W.alloc (o x))→
   assign.wpIn (F.inRound l) (n-1-1) P (Exit.then K (fun _ _ _=>False)) { tmps:=(ps.zip (encs x)).foldl (fun t (p,v)=>t.setIfInBounds p v) a.tmps,defers:=[] } W)
  (hbody:∀ (l:Nat) (pre:List α) (x:α) (W:World) (T:Nat),I pre W→W.heap[T]?=some (o x)→w.heap.size≤T→pre.length<N→body.wpIn (F.inRound l) (n-1-1) P (fun e _ W'=>match e with
   | .normal=>KeepsOthers W W'∧Below w.heap.size W W'∧I (pre++[x]) W'
   | .ret=>KeepsOthers W W'∧Ix (pre++[x]) W'
   | _=>False) (a₁ T x) W)
  (hdone:∀ (D:Nat) (xs:List α) (W:World),w.heap.size≤D→S xs→I xs W→W.heap[D]?=some (.deferred (some []))→Q .normal { a with defers:={ target:=.collected D,args:=#[] }::a.defers } W)
  (hstop:∀ (D:Nat) (pre:List α) (W:World),w.heap.size≤D→Sp pre→Ix pre W→W.heap[D]?=some (.deferred (some []))→Code.ret.wpIn F n P Q { a with defers:={ target:=.collected D,args:=#[] }::a.defers } W):
  (Code.rangeFunc g ps assign body).wpIn F n P Q a w:=by
 have kqq74:=@Hz _ @nn200;exact qq74
end
end
end Go.Proofs.YtlafbbnikgcdlaaGreatDoor
