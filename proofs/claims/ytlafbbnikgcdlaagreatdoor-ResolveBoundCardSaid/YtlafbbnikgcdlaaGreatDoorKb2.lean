/- A part of the proof: Rl, Rm, Vo, Fz. -/
import Derived.Deep.RegionHeld3
import Derived.OrdersHeld
import Derived.WalkKit
import Derived.Test.YtlafbbnikgcdlaaGreatDoorKb0
namespace Go.Proofs.YtlafbbnikgcdlaaGreatDoor
open Go.RowKit
set_option linter.all false
set_option maxHeartbeats 16000000
set_option maxRecDepth 100000
variable{p:Prop}
open Bool renaming and_eq_true→Ba'
section
variable {P:Program} {md:Region.Mode} {ops ini:Array Oper} {n:Nat} {o:Oper} {Q:Exit→Act→World→Prop}
def Nz(md:Region.Mode)(ops:Array Oper)(n:Nat):Bool :=
 ((List.range (n+1)).all fun j=>((ops[j]?).map fun o=>o.after.all fun e=>decide (e.on<j)).getD false)&&
 ((List.range n).all fun i=>((ops[i]?).map fun o=>o.guard.isNone).getD false&&(List.range (n+1)).any fun j=>decide (i<j)&&((ops[j]?).map fun o=>o.after.any fun e=>Region.binds md e&&e.on==i).getD false)
def Hd(P:Program)(ops:Array Oper)(o:Oper)(Q:Exit→Act→World→Prop)(K:Act→World→Prop):Exit→Act→World→Prop
 | .normal,a,w=>if Region.wanted o (yielded ops a.tmps)=true then Oper.wp P o a w K Q else K (a.put o.dst undef) w
 | e,a,w=>Q e a w
structure Nu (md:Region.Mode)(ops ini:Array Oper)(n:Nat)(o:Oper):Prop where
 get:∀ (i:Nat),i<n→ops[i]?=ini[i]?
 last:ops[n]?=some o
 size:ops.size=n+1
 isize:ini.size=n
 back:∀ (j:Nat) (oj:Oper),ops[j]?=some oj→∀ e ∈ oj.after,e.on<j
 nog:∀ (i:Nat) (oi:Oper),i<n→ops[i]?=some oi→oi.guard=none
 succ:∀ (i:Nat),i<n→∃ (j:Nat) (oj:Oper),i<j∧j≤n∧ops[j]?=some oj∧∃ e ∈ oj.after,Region.binds md e=true∧e.on=i
theorem Mx(h:Nz md ops n=true)(hg:∀ i,i<n→ops[i]?=ini[i]?)(hl:ops[n]?=some o)(hs:ops.size=n+1)(hi:ini.size=n):Nu md ops ini n o:=by
 unfold Nz at h;rw[Ba',List.all_eq_true,List.all_eq_true] at h;obtain⟨h1,h2⟩:=h;refine⟨hg,hl,hs,hi,fun j oj hj e he=>?_,fun i oi hlt ho=>?_,fun i hlt=>?_⟩
 ·have hlt:=(Array.getElem?_eq_some_iff.1 hj).1;have:=h1 j (List.mem_range.2 oM);rw[hj] at this;simp only[Option.map_some,Option.getD_some] at this;rw[Array.all_eq_true_iff_forall_mem] at this;simpa using this e he
 ·have:=h2 i (List.mem_range.2 hlt);rw[ho,Ba'] at this;simpa using this.1
 ·have:=h2 i (List.mem_range.2 hlt);rw[Ba',List.any_eq_true] at this;obtain⟨j,hj,h3⟩:=this.2;rw[Ba'] at h3;have hj:=List.mem_range.1 hj
  cases ho:ops[j]? with
  | none=>rw[ho] at h3;simp at h3
  | some oj =>
   rw[ho] at h3;simp only[Option.map_some,Option.getD_some] at h3;rw[Array.any_eq_true] at h3;obtain⟨hd,k,hk,h4⟩:=h3;rw[Ba'] at h4;exact⟨j,oj,by simpa using hd,oM,ho,oj.after[k],Array.getElem_mem hk,h4.1,by simpa using h4.2⟩
structure Lst (md:Region.Mode)(ops:Array Oper)(n:Nat)(l l':Array Bool):Prop where
 same:∀ j,j<n→∀ d,l.getD j d=l'.getD j d
 un:l.getD n true=false
 sz:l.size=n+1
 sz':l'.size=n
 closed:∀ (j:Nat) (oj:Oper),ops[j]?=some oj→l.getD j false=true→∀ e ∈ oj.after,Region.binds md e=true→l.getD e.on false=true
theorem U8{l:Array Bool}{j:Nat}(h:j<l.size)(d d':Bool):l.getD j d=l.getD j d':=by simp[Array.getD,h]
theorem Lst.put{l l':Array Bool}(h:Lst md ops n l l'){i:Nat}(hi:i<n)(hr:∃ o,ops[i]?=some o∧∀ e ∈ o.after,Region.binds md e=true→l.getD e.on false=true):Lst md ops n (l.setIfInBounds i true) (l'.setIfInBounds i true):=by
 refine⟨fun j hj d=>?_,?_,by simp[h.sz],by simp[h.sz'],fun j oj hj hl e he hb=>?_⟩
 ·by_cases hji:j=i
  ·subst hji;simp[Array.getD,h.sz,h.sz',hj,Nat.lt_succ_of_lt hj]
  ·rw[getD_set_ne d (fun e=>hji e.symm),getD_set_ne d (fun e=>hji e.symm)];exact h.same j hj d
 ·rw[getD_set_ne true oM];exact h.un
 ·obtain⟨o,ho,hall⟩:=hr;by_cases hji:j=i
  ·subst hji;rw[hj] at ho;cases ho;exact getD_set_true (hall e he hb)
  ·rw[getD_set_ne false (fun e=>hji e.symm)] at hl;exact getD_set_true (h.closed j oj hj hl e he hb)
theorem Ha(hk:Nu md ops ini n o){l l':Array Bool}(h:Lst md ops n l l'){j:Nat}(hj:j<n):j ∈ Region.ready md ops l↔j ∈ Region.ready md ini l':=by
 rw[mem_ready,mem_ready,hk.get j hj,h.same j hj]
 refine and_congr_right fun _=>⟨fun⟨oj,ho,hall⟩=>⟨oj,ho,fun e he hb=>?_⟩,fun⟨oj,ho,hall⟩=>⟨oj,ho,fun e he hb=>?_⟩⟩
 ·have:=hk.back j oj ((hk.get j hj).trans ho) e he;rw[← h.same _ oM];exact hall e he hb
 ·have:=hk.back j oj ((hk.get j hj).trans ho) e he;rw[h.same _ oM];exact hall e he hb
theorem Rd(hk:Nu md ops ini n o){l l':Array Bool}(h:Lst md ops n l l')(hn:n ∈ Region.ready md ops l):∀ d i,n≤i+d→i<n→l.getD i false=true:=by
 intro d
 induction d with
 | zero=>intro i h1 h2;omega
 | succ d ih =>
  intro i h1 h2;obtain⟨j,oj,hij,hjn,ho,e,he,hb,hei⟩:=hk.succ i h2;by_cases hj:j=n
  ·subst hj;obtain⟨_,oj',ho',hall⟩:=mem_ready.1 hn;rw[ho] at ho';cases ho';rw[← hei];exact hall e he hb
  ·have:=h.closed j oj ho (ih j oM oM) e he hb;rw[hei] at this;exact this
theorem Rr(hk:Nu md ops ini n o){l l':Array Bool}(h:Lst md ops n l l')(hr:Region.ready md ini l'=[]):n ∈ Region.ready md ops l:=by
 have hall:∀ i,i<n→l.getD i false=true:=by
  intro i
  induction i using Nat.strongRecOn with
  | ind i ih =>
   intro hi
   cases hl:l.getD i false with
   | true=>rfl
   | false =>
    exfalso
    have:i ∈ Region.ready md ini l':=by
     rw[← Ha hk h hi,mem_ready];refine⟨by rw[U8 (by rw[h.sz];omega) true false];exact hl,?_⟩;have hlt:i<ops.size:=by rw[hk.size];omega
     refine⟨ops[i],Array.getElem?_eq_getElem hlt,fun e he hb=>?_⟩;have:=hk.back i _ (Array.getElem?_eq_getElem hlt) e he;exact ih e.on this oM
    rw[hr] at this;cases this
 rw[mem_ready];refine⟨h.un,o,hk.last,fun e he hb=>?_⟩;have:=hk.back n o hk.last e he;exact hall _ this
theorem V5{oi:Oper}{K K' K0:Act→World→Prop}{a:Act}{w:World}(hK:∀ a w,K a w→K' a w)(h:Oper.wp P oi a w K (Hd P ops o Q K0)):Oper.wp P oi a w K' Q:=by
 unfold Oper.wp at *
 generalize (execOp a.eval oi).run P w=r at *
 cases r with
 | ok nx w' =>
  cases nx <;> simp only[Oper.upon] at h ⊢
  case value=>exact hK _ _ h
  case skip=>exact hK _ _ h
  case defer=>exact hK _ _ h
  case enter f args =>
   refine Calls.mono h fun e w'' he=>?_
   cases e with
   | returned v=>exact hK _ _ he
   | panicked c=>exact he
   | outgrown=>exact he
  case row=>exact Rows.mono h fun v w'' hv=>hK _ _ hv
 | halt x w' =>
  cases x <;> simp only[Oper.upon] at h ⊢
  case panic=>exact h
theorem wpAny_last(hk:Nu md ops ini n o):∀ (f:Nat)(l l':Array Bool)(a:Act)(w:World),Lst md ops n l l' →
  wpAny P md ini (Hd P ops o Q (Q .normal)) f l' a w→wpAny P md ops Q (f+1) l a w:=by
 intro f
 have fin:∀ (f:Nat) (l l':Array Bool) (a:Act) (w:World),Lst md ops n l l'→n ∈ Region.ready md ops l→Hd P ops o Q (Q .normal) .normal a w→wpOp P ops Q n (wpAny P md ops Q f (l.setIfInBounds n true)) a w:=by
  intro f l l' a w hl hn h
  have hnil:Region.ready md ops (l.setIfInBounds n true)=[]:=by
   rw[List.eq_nil_iff_forall_not_mem];intro j hj;obtain⟨h1,oj,h2,_⟩:=mem_ready.1 hj;have hlt:j<n+1:=by rw[← hk.size];exact(Array.getElem?_eq_some_iff.1 h2).1
   by_cases hjn:j=n
   ·subst hjn;simp[Array.getD,hl.sz] at h1
   ·rw[getD_set_ne true (fun e=>hjn e.symm),U8 (by rw[hl.sz];omega) true false,Rd hk hl hn n j oM oM] at h1;cases h1
  have hd:∀ a w,Q .normal a w→wpAny P md ops Q f (l.setIfInBounds n true) a w:=fun a w h=>wpAny_done hnil h f
  unfold wpOp;rw[hk.last];show if _ then _ else _
  have h:if Region.wanted o (yielded ops a.tmps)=true then Oper.wp P o a w (Q .normal) Q else Q .normal (a.put o.dst undef) w:=h
  split
  ·rename_i hw
   rw[if_pos hw] at h;exact .inl (Oper.wp_mono hd h)
  ·rename_i hw
   rw[if_neg hw] at h;exact hd _ _ h
 induction f with
 | zero =>
  intro l l' a w hl h;have hn:=Rr hk hl h.1;refine⟨fun h0=>(by rw[h0] at hn;cases hn),fun i hi=>?_⟩
  have:i=n:=by
   have hlt:i<n+1:=by obtain⟨_,oj,h2,_⟩:=mem_ready.1 hi;rw[← hk.size];exact(Array.getElem?_eq_some_iff.1 h2).1
   by_cases hin:i<n
   ·rw[Ha hk hl hin,h.1] at hi;cases hi
   ·omega
  subst this
  exact fin 0 l l' a w hl hi h.2
 | succ f ih =>
  intro l l' a w hl h;refine⟨fun h0=>?_,fun i hi=>?_⟩
  ·have:Region.ready md ini l'=[]:=by
    rw[List.eq_nil_iff_forall_not_mem];intro j hj;have hlt:j<n:=by obtain⟨_,oj,h2,_⟩:=mem_ready.1 hj;rw[← hk.isize];exact(Array.getElem?_eq_some_iff.1 h2).1
    rw[← Ha hk hl hlt,h0] at hj;cases hj
   have:=Rr hk hl this;rw[h0] at this;cases this
  ·by_cases hin:i<n
   ·have h1:=h.2 i ((Ha hk hl hin).1 hi);obtain⟨_,oi,ho,hall⟩:=mem_ready.1 hi;have hg:=hk.nog i oi hin ho;unfold wpOp at h1 ⊢;rw[← hk.get i hin,ho] at h1;rw[ho];have hw:∀ y,Region.wanted oi y=true:=fun y=>by simp[Region.wanted,hg]
    simp only[hw,if_true] at h1 ⊢;rcases h1 with h1|h1
    ·exact .inl (V5 (fun a w h=>ih _ _ _ _ (hl.put hin ⟨oi,ho,hall⟩) h) h1)
    ·exact .inr h1
   ·have:i=n:=by
     have hlt:i<n+1:=by obtain⟨_,oj,h2,_⟩:=mem_ready.1 hi;rw[← hk.size];exact(Array.getElem?_eq_some_iff.1 h2).1
     omega
    subst this
    have hnil:Region.ready md ini l'=[]:=by
     rw[List.eq_nil_iff_forall_not_mem];intro j hj;have hlt:j<i:=by obtain⟨_,oj,h2,_⟩:=mem_ready.1 hj;rw[← hk.isize];exact(Array.getElem?_eq_some_iff.1 h2).1
     rw[← Ha hk hl hlt,mem_ready,U8 (by rw[hl.sz];omega) true false,Rd hk hl hi i j oM hlt] at hj;cases hj.1
    exact fin (f+1) l l' a w hl hi (h.1 hnil)
theorem Ii{id:Nat}{a:Act}{w:World}(S:World→Prop)(hm:P.follows .mixedOrders=true)(hk:Nu .any ops ini n o)
  (h:wpAnyH P .any ini (Hd P ops o Q (Q .normal)) S n (Array.replicate n false) a w.drew):(Code.region id ops true).wp P Q a w:=by
 refine wp_region_any hm ?_;rw[hk.size];refine wpAny_last hk n _ _ _ _ ⟨fun j hj d=>?_,?_,sM,sM,fun j oj hj hl=>?_⟩ (wpAny_of_held _ _ _ _ h)
 ·simp[Array.getD,hj,Nat.lt_succ_of_lt hj]
 ·simp[Array.getD]
 ·simp[Array.getD] at hl
theorem Bi{K:Act→World→Prop}{a:Act}{w:World}(hg:o.guard=none)(h:Oper.wp P o a w K Q):Hd P ops o Q K .normal a w:=by
 show if _ then _ else _
 rw[if_pos (by simp[Region.wanted,hg])];exact h
theorem Bo{id:Nat}{a:Act}{w:World}{o0 o1 o2 o3 o4 o5 o6 o7:Oper}(S:World→Prop)(hm:P.follows .mixedOrders=true)(hl:Nz .any #[o0,o1,o2,o3,o4,o5,o6,o7] 7=true)(hS:S w.drew)
  (h:∀ K:Act→World→Prop,Shut (∀ a w,Q .normal a w→K a w)→S w.drew→wpAnyH P .any #[o0,o1,o2,o3,o4,o5,o6] (Hd P #[o0,o1,o2,o3,o4,o5,o6,o7] o7 Q K) S 7 (Array.replicate 7 false) a w.drew):(Code.region id #[o0,o1,o2,o3,o4,o5,o6,o7] true).wp P Q a w :=
 Ii (ini:=#[o0,o1,o2,o3,o4,o5,o6]) (o:=o7) S hm (Mx hl (by intro i hi;match i,hi with|0,_=>rfl|1,_=>rfl|2,_=>rfl|3,_=>rfl|4,_=>rfl|5,_=>rfl|6,_=>rfl) rfl rfl rfl) (h _ (fun _ _ h=>h) hS)
theorem Lk{id:Nat}{a:Act}{w:World}{o0 o1 o2 o3 o4 o5 o6 o7 o8 o9:Oper}(S:World→Prop)(hm:P.follows .mixedOrders=true)(hl:Nz .any #[o0,o1,o2,o3,o4,o5,o6,o7,o8,o9] 9=true)(hS:S w.drew)
  (h:∀ K:Act→World→Prop,Shut (∀ a w,Q .normal a w→K a w)→S w.drew→wpAnyH P .any #[o0,o1,o2,o3,o4,o5,o6,o7,o8] (Hd P #[o0,o1,o2,o3,o4,o5,o6,o7,o8,o9] o9 Q K) S 9 (Array.replicate 9 false) a w.drew):(Code.region id #[o0,o1,o2,o3,o4,o5,o6,o7,o8,o9] true).wp P Q a w :=
 Ii (ini:=#[o0,o1,o2,o3,o4,o5,o6,o7,o8]) (o:=o9) S hm (Mx hl (by intro i hi;match i,hi with|0,_=>rfl|1,_=>rfl|2,_=>rfl|3,_=>rfl|4,_=>rfl|5,_=>rfl|6,_=>rfl|7,_=>rfl|8,_=>rfl) rfl rfl rfl) (h _ (fun _ _ h=>h) hS)
theorem Ll{id:Nat}{a:Act}{w:World}{o0 o1 o2 o3 o4 o5 o6 o7 o8 o9 o10 o11 o12 o13 o14 o15 o16 o17 o18 o19:Oper}(S:World→Prop)(hm:P.follows .mixedOrders=true)(hl:Nz .any #[o0,o1,o2,o3,o4,o5,o6,o7,o8,o9,o10,o11,o12,o13,o14,o15,o16,o17,o18,o19] 19=true)(hS:S w.drew)
  (h:∀ K:Act→World→Prop,Shut (∀ a w,Q .normal a w→K a w)→S w.drew→wpAnyH P .any #[o0,o1,o2,o3,o4,o5,o6,o7,o8,o9,o10,o11,o12,o13,o14,o15,o16,o17,o18] (Hd P #[o0,o1,o2,o3,o4,o5,o6,o7,o8,o9,o10,o11,o12,o13,o14,o15,o16,o17,o18,o19] o19 Q K) S 19 (Array.replicate 19 false) a w.drew):(Code.region id #[o0,o1,o2,o3,o4,o5,o6,o7,o8,o9,o10,o11,o12,o13,o14,o15,o16,o17,o18,o19] true).wp P Q a w :=
 Ii (ini:=#[o0,o1,o2,o3,o4,o5,o6,o7,o8,o9,o10,o11,o12,o13,o14,o15,o16,o17,o18]) (o:=o19) S hm (Mx hl (by intro i hi;(have h:i=0∨i=1∨i=2∨i=3∨i=4∨i=5∨i=6∨i=7∨i=8∨i=9∨i=10∨i=11∨i=12∨i=13∨i=14∨i=15∨i=16∨i=17∨i=18:=oM);(rcases h with rfl|rfl|rfl|rfl|rfl|rfl|rfl|rfl|rfl|rfl|rfl|rfl|rfl|rfl|rfl|rfl|rfl|rfl|rfl <;> rfl)) rfl rfl rfl) (h _ (fun _ _ h=>h) hS)
theorem Og{l Gz:List Oper}{i:Nat}{oi:Oper}(h:l.drop i=oi::Gz):l.toArray[i]?=some oi:=by
 have:=congrArg (fun l=>l[0]?) h;simpa using this
section
variable {S:World→Prop} {l Gz:List Oper} {i fuel:Nat} {oi:Oper} {listed:Array Bool} {a:Act} {w:World}
theorem Af{v:Value}(hd:l.drop i=oi::Gz)(hs:Region.noSelect l.toArray=true)(hf:Region.free md l.toArray listed i=true)(hr:(Region.ready md l.toArray listed).contains i=true)
  (hQ:∀ c a w,Q (.panic c) (a.put oi.dst v) w→Q (.panic c) a w) (hy:YieldsIf P l.toArray S oi v a) (hS:S w)
  (h:wpAnyH P md l.toArray Q S fuel (listed.setIfInBounds i true) (a.put oi.dst v) w):wpAnyH P md l.toArray Q S (fuel+1) listed a w :=
 wpAnyH_take (Og hd) hs hf hr hQ hy hS h
theorem Am(hd:l.drop i=oi::Gz)(hr:Region.ready md l.toArray listed=[i])
  (h:∀ K':Act→World→Prop,Shut (∀ a w,S w→(S w→wpAnyH P md l.toArray Q S fuel (listed.setIfInBounds i true) a w)→K' a w)→if Region.wanted oi (yielded l.toArray a.tmps)=true then Oper.wp P oi a w K' Q else K' (a.put oi.dst undef) w):
  wpAnyH P md l.toArray Q S (fuel+1) listed a w :=
 wpAnyH_ready hr sM (AllReadyH.cons (Og hd) h AllReadyH.nil)
theorem Jw{rs:List Nat}(hd:l.drop i=oi::Gz)
  (h:∀ K':Act→World→Prop,Shut (∀ a w,S w→(S w→wpAnyH P md l.toArray Q S fuel (listed.setIfInBounds i true) a w)→K' a w)→if Region.wanted oi (yielded l.toArray a.tmps)=true then Oper.wp P oi a w K' Q else K' (a.put oi.dst undef) w)
  (hs:AllReadyH P md l.toArray Q S fuel listed a w rs):AllReadyH P md l.toArray Q S fuel listed a w (i::rs):=AllReadyH.cons (Og hd) h hs
end
end
section
variable {P:Program} {Q:Exit→Act→World→Prop} {l:List Oper} {n:Nat} {o o':Oper}
theorem tail_last(hl:Nz .any l.toArray n=true)(hd:l.drop n=[o]):Nu .any l.toArray (l.take n).toArray n o:=by
 have hlen:l.length=n+1:=by
  have:=congrArg List.length hd;simp at this;omega
 refine Mx hl (fun i hi=>?_) (Og hd) (by simpa using hlen) sO;simp[List.getElem?_take,hi]
theorem Db{id:Nat}{a:Act}{w:World}(n:Nat)(S:World→Prop)(hm:P.follows .mixedOrders=true)(hl:Nz .any l.toArray n=true)(hd:l.drop n=[o])(hS:S w.drew)
  (h:∀ K:Act→World→Prop,Shut (∀ a w,Q .normal a w→K a w)→S w.drew→wpAnyH P .any (l.take n).toArray (Hd P l.toArray o Q K) S n (Array.replicate n false) a w.drew):(Code.region id l.toArray true).wp P Q a w :=
 Ii S hm (tail_last hl hd) (h _ (fun _ _ h=>h) hS)
theorem Ea{P:Program}{ops:Array Oper}{Q:Exit→Act→World→Prop}{o:Oper}{K:Act→World→Prop}{a:Act}{w:World}(hg:o.guard=none)(h:∀ Q':Exit→Act→World→Prop,Oper.wp P o a w K Q'):Hd P ops o Q K .normal a w:=Bi hg (h Q)
end
theorem tk1{P:Program}{ops:Array Oper}{Q:Exit→Act→World→Prop}{md:Region.Mode}{S:World→Prop}(i:Nat){oi:Oper}{v:Value}{fuel:Nat}{listed:Array Bool}{a:Act}{w:World}(hi:ops[i]?=some oi)(hw:Region.wanted oi (yielded ops a.tmps)=true)(hy:∀ w,S w→(execOp a.eval oi).run P w = .ok (.value v) w)
  (h:wpAnyH P md ops Q S fuel (listed.setIfInBounds i true) (a.put oi.dst v) w) (hs:Region.noSelect ops=true:=by kernel_rfl) (hf:Region.free md ops listed i=true:=by kernel_rfl) (hr:(Region.ready md ops listed).contains i=true:=by kernel_rfl)
  (hQ:∀ c a w,Q (.panic c) (a.put oi.dst v) w→Q (.panic c) a w:=by exact fun _ _ _ h=>h) (hS:S w:=by assumption):wpAnyH P md ops Q S (fuel+1) listed a w :=
 wpAnyH_take hi hs hf hr hQ (.inl ⟨hw,hy⟩) hS h
theorem tk0{P:Program}{ops:Array Oper}{Q:Exit→Act→World→Prop}{md:Region.Mode}{S:World→Prop}(i:Nat){oi:Oper}{fuel:Nat}{listed:Array Bool}{a:Act}{w:World}(hi:ops[i]?=some oi)(hw:Region.wanted oi (yielded ops a.tmps)=false)
  (h:wpAnyH P md ops Q S fuel (listed.setIfInBounds i true) (a.put oi.dst undef) w) (hs:Region.noSelect ops=true:=by kernel_rfl) (hf:Region.free md ops listed i=true:=by kernel_rfl) (hr:(Region.ready md ops listed).contains i=true:=by kernel_rfl)
  (hQ:∀ c a w,Q (.panic c) (a.put oi.dst undef) w→Q (.panic c) a w:=by exact fun _ _ _ h=>h) (hS:S w:=by assumption):wpAnyH P md ops Q S (fuel+1) listed a w :=
 wpAnyH_take hi hs hf hr hQ (.inr ⟨hw,rfl⟩) hS h
theorem tkc{P:Program}{ops:Array Oper}{Q:Exit→Act→World→Prop}{md:Region.Mode}{S:World→Prop}(i:Nat){oi:Oper}{fuel:Nat}{listed:Array Bool}{a:Act}{w:World}(hi:ops[i]?=some oi)
  (h:∀ K':Act→World→Prop,Shut (∀ a w,S w→(S w→wpAnyH P md ops Q S fuel (listed.setIfInBounds i true) a w)→K' a w)→if Region.wanted oi (yielded ops a.tmps)=true then Oper.wp P oi a w K' Q else K' (a.put oi.dst undef) w) (hr:Region.ready md ops listed=[i]:=by kernel_rfl):wpAnyH P md ops Q S (fuel+1) listed a w :=
 wpAnyH_ready hr sM (AllReadyH.cons hi h AllReadyH.nil)
def pu(a:Act)(b:Bool)(d:Nat)(v:Value):Act:=if b then a.put (some d) v else a
section
variable {a:Act} {b:Bool} {d e:Nat} {u v:Value}
theorem Ly(h:d≠e):(pu a b d v).put (some e) u=pu (a.put (some e) u) b d v:=by
 cases b
 ·rfl
 ·exact Act.put_comm a (x:=some d) (y:=some e) v u (fun x hx hy=>h (by cases hx;cases hy;rfl))
theorem Bx(h:d≠e):(pu a b d v).eval (.tmp e)=a.eval (.tmp e):=by
 cases b
 ·rfl
 ·simp[pu,Act.put,Act.eval,Array.getD_eq_getD_getElem?,Array.getElem?_setIfInBounds,h]
theorem Vm:(pu a b d v).tmps.size=a.tmps.size:=by cases b <;> simp[pu,Act.put]
theorem Vl(h:d<a.tmps.size):(pu a true d v).eval (.tmp d)=v:=by simp[pu,Act.put,Act.eval,Array.getD,h]
end
def tL(b5 bc b6 bp bb bf:Bool):Array Bool:=#[true,true,true,b5,true,true,true,bc,true,b6,bp,bb,bf,false]
def tRd(b5 bc b6 bp bb bf:Bool):List Nat:=(if b5 then [] else [3])++((if bc then [] else [7])++((if b6 then [] else [9])++((if !bp&&bc&&b6 then [10] else [])++((if !bb&&b5&&bp then [11] else [])++((if bf then [] else [12])++(if bb&&bf then [13] else []))))))
def tOk(b5 bc b6 bp bb:Bool):Bool:=(!bp||bc&&b6)&&(!bb||b5&&bp)
def tN(b5 bc b6 bp bb bf:Bool):Nat:=(if b5 then 0 else 1)+(if bc then 0 else 1)+(if b6 then 0 else 1)+(if bp then 0 else 1)+(if bb then 0 else 1)+(if bf then 0 else 1)
theorem tRd_ne:∀ b5 bc b6 bp bb bf,tRd b5 bc b6 bp bb bf≠[]:=by decide
theorem tRd_mem:∀ b5 bc b6 bp bb bf,∀ i ∈ tRd b5 bc b6 bp bb bf,tOk b5 bc b6 bp bb=true→tN b5 bc b6 bp bb bf≠0→i=3∧b5=false∨i=7∧bc=false∧bp=false∨i=9∧b6=false∧bp=false∨i=10∧bp=false∧bc=true∧b6=true∧bb=false∨i=11∧bb=false∧b5=true∧bp=true∧bc=true∧b6=true∨i=12∧bf=false:=by
 intro b5 bc b6 bp bb bf;cases b5 <;> cases bc <;> cases b6 <;> cases bp <;> cases bb <;> cases bf <;> simp[tRd,tOk,tN]
theorem W5{P:Program}{ops:Array Oper}{Q:Exit→Act→World→Prop}{S:World→Prop}(R:Bool→Bool→Bool→Bool→Bool→Bool→Act→World→Prop)
  (hr:∀ b5 bc b6 bp bb bf,tOk b5 bc b6 bp bb=true→Region.ready .any ops (tL b5 bc b6 bp bb bf)=tRd b5 bc b6 bp bb bf)
  (hS:∀ b5 bc b6 bp bb bf a w,R b5 bc b6 bp bb bf a w→S w)
  (s5:∀ bc b6 bp bf a w K,R false bc b6 bp false bf a w→(∀ a' w',R true bc b6 bp false bf a' w'→K a' w')→wpOp P ops Q 3 K a w)
  (sc:∀ b5 b6 bf a w K,R b5 false b6 false false bf a w→(∀ a' w',R b5 true b6 false false bf a' w'→K a' w')→wpOp P ops Q 7 K a w)
  (s6:∀ b5 bc bf a w K,R b5 bc false false false bf a w→(∀ a' w',R b5 bc true false false bf a' w'→K a' w')→wpOp P ops Q 9 K a w)
  (sp:∀ b5 bf a w K,R b5 true true false false bf a w→(∀ a' w',R b5 true true true false bf a' w'→K a' w')→wpOp P ops Q 10 K a w)
  (sb:∀ bf a w K,R true true true true false bf a w→(∀ a' w',R true true true true true bf a' w'→K a' w')→wpOp P ops Q 11 K a w)
  (sf:∀ b5 bc b6 bp bb a w K,R b5 bc b6 bp bb false a w→(∀ a' w',R b5 bc b6 bp bb true a' w'→K a' w')→wpOp P ops Q 12 K a w)
  (fin:∀ a w,R true true true true true true a w→wpAnyH P .any ops Q S 1 (tL true true true true true true) a w):
  ∀ (n:Nat) (b5 bc b6 bp bb bf:Bool),tOk b5 bc b6 bp bb=true→n=tN b5 bc b6 bp bb bf→∀ a w,R b5 bc b6 bp bb bf a w→wpAnyH P .any ops Q S (n+1) (tL b5 bc b6 bp bb bf) a w:=by
 intro n
 induction n with
 | zero =>
  intro b5 bc b6 bp bb bf _ hn a w h
  cases b5 <;> cases bc <;> cases b6 <;> cases bp <;> cases bb <;> cases bf <;> first|exact fin a w h|(exact absurd hn dC)
 | succ n ih =>
  intro b5 bc b6 bp bb bf hok hn a w h;refine⟨fun h0=>absurd ((hr _ _ _ _ _ _ hok).symm.trans h0) (tRd_ne _ _ _ _ _ _),fun i hi=>?_⟩;rw[hr _ _ _ _ _ _ hok] at hi
  rcases tRd_mem _ _ _ _ _ _ i hi hok oM with⟨rfl,rfl⟩| ⟨rfl,rfl,rfl⟩| ⟨rfl,rfl,rfl⟩| ⟨rfl,rfl,rfl,rfl,rfl⟩| ⟨rfl,rfl,rfl,rfl,rfl,rfl⟩| ⟨rfl,rfl⟩
  ·obtain rfl:bb=false:=by cases bb <;> first|rfl|(simp[tOk] at hok)
   exact s5 _ _ _ _ a w _ h (fun a' w' h'=>⟨hS _ _ _ _ _ _ _ _ h',ih true bc b6 bp false bf (by revert hok;cases bc <;> cases b6 <;> cases bp <;> decide) (by revert hn;cases bc <;> cases b6 <;> cases bp <;> cases bf <;> simp[tN] <;> omega) a' w' h'⟩)
  ·obtain rfl:bb=false:=by cases bb <;> first|rfl|(simp[tOk] at hok)
   exact sc _ _ _ a w _ h (fun a' w' h'=>⟨hS _ _ _ _ _ _ _ _ h',ih b5 true b6 false false bf rfl (by revert hn;cases b5 <;> cases b6 <;> cases bf <;> simp[tN] <;> omega) a' w' h'⟩)
  ·obtain rfl:bb=false:=by cases bb <;> first|rfl|(simp[tOk] at hok)
   exact s6 _ _ _ a w _ h (fun a' w' h'=>⟨hS _ _ _ _ _ _ _ _ h',ih b5 bc true false false bf rfl (by revert hn;cases b5 <;> cases bc <;> cases bf <;> simp[tN] <;> omega) a' w' h'⟩)
  ·exact sp _ _ a w _ h (fun a' w' h'=>⟨hS _ _ _ _ _ _ _ _ h',ih b5 true true true false bf rfl (by revert hn;cases b5 <;> cases bf <;> simp[tN] <;> omega) a' w' h'⟩)
  ·exact sb _ a w _ h (fun a' w' h'=>⟨hS _ _ _ _ _ _ _ _ h',ih true true true true true bf rfl (by revert hn;cases bf <;> simp[tN] <;> omega) a' w' h'⟩)
  ·exact sf _ _ _ _ _ a w _ h (fun a' w' h'=>⟨hS _ _ _ _ _ _ _ _ h',ih b5 bc b6 bp bb true hok (by revert hn;cases b5 <;> cases bc <;> cases b6 <;> cases bp <;> cases bb <;> simp[tN] <;> omega) a' w' h'⟩)
end Go.Proofs.YtlafbbnikgcdlaaGreatDoor
