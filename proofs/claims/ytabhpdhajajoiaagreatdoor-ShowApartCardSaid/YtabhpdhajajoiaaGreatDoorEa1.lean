/- A part of the proof: Pw, Op, Hl, Fu, Hg, Hh, Hm, Ya, Yb, Yc. -/
import Derived.SizedLaws
import Derived.Carry
import Derived.Deep.Slices
import Derived.ChangeArms
import Derived.KernelRfl
import Derived.BigQuiet
import Derived.Deep.QuietTactic
import Derived.Deep.DrawnRows
import Derived.Deep.RegionHeld3
import Derived.Test.YtabhpdhajajoiaaGreatDoorEb25
namespace Go.Proofs.YtabhpdhajajoiaaGreatDoor
open Go.RowKit
open _root_.Go.Proofs.Tryz
set_option linter.all false
set_option maxHeartbeats 16000000
set_option maxRecDepth 100000
open List renaming getElem?_eq_getElem→Lg'
open Nat renaming le_refl→Nr'
open Bool renaming and_eq_true→Ba'
theorem Uz{l:List Ab}{i:Nat}{x:Ab}(h:l[i]?=some x):laE x≤D7 l:=by
 induction l generalizing i with
 | nil=>simp at h
 | cons y l ih =>
  cases i with
  | zero=>simp at h;subst h;simp[D7]
  | succ i=>simp at h;have:=ih h;simp[D7];omega
theorem Uy{l:List (Ak×Ab)}{i:Nat}{p:Ak}{x:Ab}(h:l[i]?=some (p,x)):laP p+laE x≤D6 l:=by
 induction l generalizing i with
 | nil=>simp at h
 | cons y l ih =>
  cases i with
  | zero=>simp at h;subst h;simp[D6,laA]
  | succ i=>simp at h;have:=ih h;simp[D6];omega
theorem Yo(l:List Ab):l.length≤D7 l:=by
 induction l with
 | nil=>simp
 | cons x l ih=>cases x;simp[D7,laE];omega
theorem Yn(l:List (Ak×Ab)):l.length≤D6 l:=by
 induction l with
 | nil=>simp
 | cons x l ih=>obtain⟨p,x⟩:=x;cases x;cases p;simp[D6,laA,laE,laP];omega
section
open Go.RowKit Go.Deep
def Nm(n:Int):Prop:=(Lit.int .i64 n).wf=true
inductive WtP:Ak→Prop
 | mk {k a nm n s ls args} (hk:Nm k∧Nm a∧Nm n) (h1:nm.length≤reachBytes) (h2:s.length≤reachBytes) (h3:ls.length * 16≤reachBytes) (h4:∀ (i:Nat) (x:LB),ls[i]?=some x→x.length≤reachBytes) (h5:args.length * 104≤reachBytes) (h6:∀ (i:Nat) (x:Ak),args[i]?=some x→WtP x):WtP (.mk k a nm n s ls args)
inductive WtE:Ab→Prop
 | mk {k a nm n s ls args arms} (hk:Nm k∧Nm a∧Nm n) (h1:nm.length≤reachBytes) (h2:s.length≤reachBytes) (h3:ls.length * 16≤reachBytes) (h4:∀ (i:Nat) (x:LB),ls[i]?=some x→x.length≤reachBytes) (h5:args.length * 128≤reachBytes) (h6:∀ (i:Nat) (x:Ab),args[i]?=some x→WtE x) (h7:arms.length * 232≤reachBytes) (h8:∀ (i:Nat) (p:Ak) (x:Ab),arms[i]?=some (p,x)→WtP p) (h9:∀ (i:Nat) (p:Ak) (x:Ab),arms[i]?=some (p,x)→WtE x):WtE (.mk k a nm n s ls args arms)
instance:Inhabited Ak:=⟨.zero⟩
instance:Inhabited Ab:=⟨.zero⟩
theorem len2{α:Type}:∀ {l:List α},l.length=2→∃ a b,l=[a,b]
 | [a,b],_=>⟨a,b,rfl⟩
theorem len7{α:Type}:∀ {l:List α},l.length=7→∃ a b c d e f g,l=[a,b,c,d,e,f,g]
 | [a,b,c,d,e,f,g],_=>⟨a,b,c,d,e,f,g,rfl⟩
theorem len8{α:Type}:∀ {l:List α},l.length=8→∃ a b c d e f g h,l=[a,b,c,d,e,f,g,h]
 | [a,b,c,d,e,f,g,h],_=>⟨a,b,c,d,e,f,g,h,rfl⟩
theorem Ts(b o k:Nat):(⟨b,o,none⟩:Addr).add k=⟨b,o+k,none⟩:=by
 unfold Addr.add;by_cases h:k=0
 ·subst h;simp
 ·simp[h]
theorem J0{H:Type}{P:Program}{e:TypeId}:∀ {l:List (DataW H)},(DataW.weightsAll P e l).all (·≤reachBytes)=true→∀ (i:Nat)(d:DataW H),l[i]?=some d→(d.weights P e).all (·≤reachBytes)=true
 | [],_,i,d,h=>by simp at h
 | x::l,hw,i,d,h=>by
  simp only[DataW.weightsAll,List.all_append,Ba'] at hw
  cases i with
  | zero=>simp at h;subst h;exact hw.1
  | succ i=>exact J0 hw.2 i d (by simpa using h)
section
variable {H:Type} {enc:TypeId×Value→H} {w:World}
theorem Oo{α:Type} [Inhabited α] {P:Program}{t e:TypeId}(ht:P.underlying t=some (.slice e))(size bytes:Nat)(hs:P.cellsOf e=size)(hs0:0<size)(hby:P.bytesOf e=bytes)(E:α→List Value→Prop)(Wt:α→Prop){fuel:Nat}{cs:List Value}{x:DataW H×List MemPlace}
  (h:DataW.trod enc P w 0 (fun _=>true) true fuel t cs=some x)
  (hel:∀ n,n<fuel→∀ cs' y,DataW.trod enc P w 0 (fun _=>true) true n e cs'=some y→∃ z:α,E z cs'∧((y.1.weights P e).all (·≤reachBytes)=true→Wt z)):
  ∃ (v:Value) (xs:List α) (c:Nat→List Value),cs=[v]∧Dy w (fun b=>b<w.heap.size) v xs.length size c∧(∀ (i:Nat) (z:α),xs[i]?=some z→E z (c i))∧
   ((x.1.weights P t).all (·≤reachBytes)=true→xs.length * bytes≤reachBytes∧∀ (i:Nat) (z:α),xs[i]?=some z→Wt z):=by
 rcases DataW.trod_slice ht h with⟨rfl,rfl⟩| ⟨a,len,cap,elems,rest,n,rfl,rfl,rfl,_,hlc,_,hlen,hi,_,_⟩
 ·exact⟨_,[],fun _=>[],rfl,Dy.nil_ _ _ _ _,fun i z hz=>by simp at hz,fun _=>⟨by simp,fun i z hz=>by simp at hz⟩⟩
 ·have each:∀ i,i<len→∃ q:List Value×α,w.cells? 0 (a.add (i * size)) size=some q.1∧E q.2 q.1∧(∀ d,elems[i]?=some d→(d.1.weights P e).all (·≤reachBytes)=true→Wt q.2):=fun i hlt=>by
   have:=hi i hlt;rw[hs] at this
   obtain⟨d,hd⟩:∃ d,elems[i]?=some d:=⟨elems[i],Lg' (by omega)⟩
   rw[hd] at this;obtain⟨cs',h1,h2⟩:=Option.bind_eq_some_iff.1 this;obtain⟨z,hz1,hz2⟩:=hel n (Nat.lt_succ_self n) cs' d h2;exact⟨(cs',z),h1,hz1,fun d' hd' hw=>by rw[hd] at hd';cases hd';exact hz2 hw⟩
  obtain⟨q,hq⟩:=choose_lt each;refine⟨_,(List.range len).map (fun i=>(q i).2),fun i=>(q i).1,rfl,?_,fun i z hz=>?_,fun hw=>?_⟩
  ·rw[List.length_map,List.length_range];by_cases h0:len=0
   ·subst h0;exact .inl ⟨_,_,rfl,rfl⟩
   ·obtain⟨b,o,sp⟩:=a
    have hc0:=(World.cells?_some (hq 0 (by omega)).1)
    obtain⟨v,hv⟩:∃ v,(q 0).1[0]?=some v:=⟨(q 0).1[0]'(by rw[hc0.2.1];exact hs0),Lg' _⟩
    have hcc:=hc0.2.2 0 hs0;rw[hv] at hcc;have e0:((⟨b,o,sp⟩:Addr).add (0 * size)).add 0=⟨b,o,sp⟩:=by simp[Addr.add]
    rw[e0] at hcc;have hsp:sp=none:=World.cell?_spot hcc;subst hsp
    have hb:b<w.heap.size:=by
     unfold World.cell? at hcc;rcases Nat.lt_or_ge b w.heap.size with h1|h1
     ·exact h1
     ·rw[Array.getElem?_eq_none h1] at hcc;cases hcc
    refine .inr ⟨b,o,cap,rfl,hb,hb,hlc,fun i hlt=>?_⟩;obtain⟨_,h1,h2⟩:=World.cells?_some (hq i hlt).1;refine⟨h1,fun j u hu=>?_⟩;have hj:j<size:=by rw[← h1];exact(List.getElem?_eq_some_iff.1 hu).1
    have:=h2 j hj;rw[Ts,Ts] at this;exact this.trans hu
  ·obtain⟨hlt,e⟩:=List.getElem?_eq_some_iff.1 hz;simp at hlt e;subst e;exact(hq i hlt).2.1
  ·rw[DataW.weights,ht] at hw;simp only[List.all_cons,List.all_append,Ba',decide_eq_true_eq,List.length_map,hby] at hw;refine⟨?_,fun i z hz=>?_⟩
   ·rw[List.length_map,List.length_range,← hlen];exact Nat.le_trans (Nat.mul_le_mul_right _ (Nat.le_add_right _ _)) hw.1
   ·obtain⟨hlt,e⟩:=List.getElem?_eq_some_iff.1 hz;simp at hlt e;subst e;have hd:elems[i]?=some elems[i]:=Lg' (by omega);exact(hq i hlt).2.2 _ hd (J0 hw.2.1 i _ (by rw[List.getElem?_map,hd];rfl))
theorem Pa:prog.cellsOf 25=7:=by kernel_rfl
theorem Mm:prog.cellsOf 35=8:=by kernel_rfl
theorem Ue:prog.cellsOf 46=15:=by kernel_rfl
theorem Mn:prog.cellsOf 9=1:=by kernel_rfl
theorem bytesPat:prog.bytesOf 25=104:=by kernel_rfl
theorem Zn:prog.bytesOf 35=128:=by kernel_rfl
theorem bytesArm:prog.bytesOf 46=232:=by kernel_rfl
theorem Zo:prog.bytesOf 9=16:=by kernel_rfl
theorem Rd:prog.cellsOf 3=1:=by kernel_rfl
theorem Rc:prog.cellsOf 2=1:=by kernel_rfl
theorem Pb:prog.cellsOf 22=1:=by kernel_rfl
theorem Wp:prog.cellsOf 23=1:=by kernel_rfl
theorem Uf:prog.cellsOf 32=1:=by kernel_rfl
theorem Wn:prog.cellsOf 33=1:=by kernel_rfl
theorem L7{fuel:Nat}{cs:List Value}{x:DataW H×List MemPlace}(h:DataW.trod enc prog w 0 (fun _=>true) true fuel 22 cs=some x):
  ∃ (v:Value) (ls:List LB) (c:Nat→List Value),cs=[v]∧Dy w (fun b=>b<w.heap.size) v ls.length 1 c∧(∀ (i:Nat) (z:LB),ls[i]?=some z→c i=Of z)∧
   ((x.1.weights prog 22).all (·≤reachBytes)=true→ls.length * 16≤reachBytes∧∀ (i:Nat) (z:LB),ls[i]?=some z→z.length≤reachBytes):=by
 refine Oo (P:=prog) underlying22 1 16 Mn (by decide) Zo (fun z cs=>cs=Of z) (fun z=>z.length≤reachBytes) h (fun n _ cs' y hy=>?_);obtain⟨s,rfl,rfl,_⟩:=DataW.trod_string underlying9 hy;exact⟨s.data.toList,by simp[Of],fun hw=>by simpa [DataW.weights] using hw⟩
theorem Pz:∀ (N fuel:Nat),fuel<N→∀ (cs:List Value)(x:DataW H×List MemPlace),DataW.trod enc prog w 0 (fun _=>true) true fuel 25 cs=some x →
  ∃ t:Ak,Bd w (fun b=>b<w.heap.size) t cs∧((x.1.weights prog 25).all (·≤reachBytes)=true→WtP t)
 | 0,_,h,_,_,_=>absurd h (Nat.not_lt_zero _)
 | N+1,fuel,hN,cs,x,h=>by
  obtain⟨xs,n,rfl,rfl,hcl,hxl,hf⟩:=DataW.trod_struct underlying25 h;rw[Pa] at hcl;have hxl:xs.length=7:=hxl;obtain⟨x0,x1,x2,x3,x4,x5,x6,rfl⟩:=len7 hxl;obtain⟨v0,v1,v2,v3,v4,v5,v6,rfl⟩:=len7 hcl;have h0:=hf 0 _ rfl;have h1:=hf 1 _ rfl;have h2:=hf 2 _ rfl;have h3:=hf 3 _ rfl;have h4:=hf 4 _ rfl;have h5:=hf 5 _ rfl;have h6:=hf 6 _ rfl;simp only[List.getElem_toArray,List.getElem_cons_zero,List.getElem_cons_succ,Rd,Rc,Mn,Pb,Wp,List.drop_zero,List.drop_succ_cons,List.take_succ_cons,List.take_zero,List.getElem?_cons_zero,List.getElem?_cons_succ] at h0 h1 h2 h3 h4 h5 h6;obtain⟨k,e0,rfl,w0⟩:=DataW.trod_int underlying3 h0;obtain⟨a,e1,rfl,w1⟩:=DataW.trod_int underlying3 h1;obtain⟨nm,e2,rfl,w2⟩:=DataW.trod_string underlying9 h2;obtain⟨m,e3,rfl,w3⟩:=DataW.trod_int underlying2 h3;obtain⟨s,e4,rfl,w4⟩:=DataW.trod_string underlying9 h4;obtain⟨u5,ls,c5,e5,s5,l5,b5⟩:=L7 h5;obtain⟨u6,args,c6,e6,s6,l6,b6⟩:=Oo (P:=prog) (α:=Ak) (hel:=fun q hq cs' y hy=>Pz N q (by omega) cs' y hy) underlying23 7 104 Pa (by decide) bytesPat (E:=fun z cs=>Bd w (fun b=>b<w.heap.size) z cs) (Wt:=WtP) h6;cases e0;cases e1;cases e2;cases e3;cases e4;cases e5;cases e6;refine⟨.mk k a nm.data.toList m s.data.toList ls args,?_,fun hw=>?_⟩
  ·have:=Bd.mk (w:=w) (ok:=fun b=>b<w.heap.size) (k:=k) (a:=a) (nm:=nm.data.toList) (n:=m) (s:=s.data.toList) c5 c6 s5 l5 s6 l6;simpa using this
  ·rw[DataW.weights,underlying25] at hw;simp[DataW.weightsEach,DataW.weights] at hw;obtain⟨hw2,hw4,hw5,hw6⟩:=hw;obtain⟨p1,p2⟩:=b5 (by simpa using hw5);obtain⟨p3,p4⟩:=b6 (by simpa using hw6);exact .mk ⟨w0,w1,w3⟩ (by simpa using hw2) (by simpa using hw4) p1 p2 p3 p4
theorem My:∀ (N fuel:Nat),fuel<N→∀ (cs:List Value)(x:DataW H×List MemPlace),DataW.trod enc prog w 0 (fun _=>true) true fuel 35 cs=some x →
  ∃ t:Ab,Aj w (fun b=>b<w.heap.size) t cs∧((x.1.weights prog 35).all (·≤reachBytes)=true→WtE t)
 | 0,_,h,_,_,_=>absurd h (Nat.not_lt_zero _)
 | N+1,fuel,hN,cs,x,h=>by
  obtain⟨xs,n,rfl,rfl,hcl,hxl,hf⟩:=DataW.trod_struct underlying35 h;rw[Mm] at hcl;have hxl:xs.length=8:=hxl;obtain⟨x0,x1,x2,x3,x4,x5,x6,x7,rfl⟩:=len8 hxl;obtain⟨v0,v1,v2,v3,v4,v5,v6,v7,rfl⟩:=len8 hcl;have h0:=hf 0 _ rfl;have h1:=hf 1 _ rfl;have h2:=hf 2 _ rfl;have h3:=hf 3 _ rfl;have h4:=hf 4 _ rfl;have h5:=hf 5 _ rfl;have h6:=hf 6 _ rfl;have h7:=hf 7 _ rfl;simp only[List.getElem_toArray,List.getElem_cons_zero,List.getElem_cons_succ,Rd,Rc,Mn,Pb,Uf,Wn,List.drop_zero,List.drop_succ_cons,List.take_succ_cons,List.take_zero,List.getElem?_cons_zero,List.getElem?_cons_succ] at h0 h1 h2 h3 h4 h5 h6 h7;obtain⟨k,e0,rfl,w0⟩:=DataW.trod_int underlying3 h0;obtain⟨a,e1,rfl,w1⟩:=DataW.trod_int underlying3 h1;obtain⟨nm,e2,rfl,w2⟩:=DataW.trod_string underlying9 h2;obtain⟨m,e3,rfl,w3⟩:=DataW.trod_int underlying2 h3;obtain⟨s,e4,rfl,w4⟩:=DataW.trod_string underlying9 h4;obtain⟨u5,ls,c5,e5,s5,l5,b5⟩:=L7 h5;obtain⟨u6,args,c6,e6,s6,l6,b6⟩:=Oo (P:=prog) (α:=Ab) (hel:=fun q hq cs' y hy=>My N q (by omega) cs' y hy) underlying32 8 128 Mm (by decide) Zn (E:=fun z cs=>Aj w (fun b=>b<w.heap.size) z cs) (Wt:=WtE) h6
  obtain⟨u7,arms,c7,e7,s7,l7,b7⟩:=Oo (P:=prog) (α:=Ak×Ab) underlying33 15 232 Ue (by decide) bytesArm (E:=fun z cs=>Bd w (fun b=>b<w.heap.size) z.1 (cs.take 7)∧Aj w (fun b=>b<w.heap.size) z.2 (cs.drop 7)) (Wt:=fun z=>WtP z.1∧WtE z.2) h7 (fun q hq cs' y hy=>by
   obtain⟨ys,m',rfl,rfl,hcl',hyl,hg⟩:=DataW.trod_struct underlying46 hy
   rw[Ue] at hcl'
   have hyl:ys.length=2:=hyl
   obtain⟨y0,y1,rfl⟩:=len2 hyl
   have g0:=hg 0 _ rfl
   have g1:=hg 1 _ rfl
   simp only[List.getElem_toArray,List.getElem_cons_zero,List.getElem_cons_succ,Pa,Mm,List.drop_zero,List.getElem?_cons_zero,List.getElem?_cons_succ] at g0 g1
   have e15:(cs'.drop 7).take 8=cs'.drop 7:=List.take_of_length_le (by rw[List.length_drop];omega)
   rw[e15] at g1
   obtain⟨p,hp,wp⟩:=Pz (m'+1) m' (Nat.lt_succ_self _) _ _ g0
   obtain⟨x,hx,wx⟩:=My N m' (by omega) _ _ g1
   refine⟨(p,x),⟨hp,hx⟩,fun hw=>?_⟩
   rw[DataW.weights,underlying46] at hw
   simp[DataW.weightsEach] at hw
   exact⟨wp (by simpa using hw.1),wx (by simpa using hw.2)⟩)
  cases e0;cases e1;cases e2;cases e3;cases e4;cases e5;cases e6;cases e7;refine⟨.mk k a nm.data.toList m s.data.toList ls args arms,?_,fun hw=>?_⟩
  ·have s7':Dy w (fun b=>b<w.heap.size) v7 arms.length 15 (fun i=>(c7 i).take 7++(c7 i).drop 7):=by
    have:(fun i=>(c7 i).take 7++(c7 i).drop 7)=c7:=funext fun i=>List.take_append_drop 7 (c7 i)
    rw[this];exact s7
   have:=Aj.mk (w:=w) (ok:=fun b=>b<w.heap.size) (k:=k) (a:=a) (nm:=nm.data.toList) (n:=m) (s:=s.data.toList) c5 c6 (fun i=>(c7 i).take 7) (fun i=>(c7 i).drop 7) s5 l5 s6 l6 s7' (fun i p x hi=>(l7 i _ hi).1) (fun i p x hi=>(l7 i _ hi).2);simpa using this
  ·rw[DataW.weights,underlying35] at hw;simp[DataW.weightsEach,DataW.weights] at hw;obtain⟨hw2,hw4,hw5,hw6,hw7⟩:=hw;obtain⟨p1,p2⟩:=b5 (by simpa using hw5);obtain⟨p3,p4⟩:=b6 (by simpa using hw6);obtain⟨p5,p6⟩:=b7 (by simpa using hw7);exact .mk ⟨w0,w1,w3⟩ (by simpa using hw2) (by simpa using hw4) p1 p2 p3 p4 p5 (fun i p x hi=>(p6 i _ hi).1) (fun i p x hi=>(p6 i _ hi).2)
end
theorem Se{P:Program}{w:World}{r:Reach}{base:Nat}{t:TypeId}{v:Value}{fs:Array Field}(ht:P.underlying t=some (.struct fs))(h:Value.okWide P w r base t v):∃ cs,v = .agg cs:=by
 unfold Value.okWide at h;rw[ht] at h;obtain⟨cs,rfl,_⟩:=h;exact⟨cs,rfl⟩
theorem Tl{H:Type}{P:Program}{ts:List TypeId}{ds:List (DataW H)}(h:(DataW.weightsEach P ts ds).all (·≤reachBytes)=true){j:Nat}{t:TypeId}{d:DataW H}(ht:ts[j]?=some t)(hd:ds[j]?=some d):(d.weights P t).all (·≤reachBytes)=true :=
 List.all_eq_true.2 fun n hn=>List.all_eq_true.1 h n (DataW.weights_mem_each ht hd n hn)
theorem Ly:laidOutB prog=true:=by kernel_rfl
section
variable {H:Type} {enc:TypeId×Value→H} {w:World}
theorem Ii{cs:Array Value}{d:DataW H}{p:List MemPlace}(h:DataW.Trod enc prog w 0 (fun _=>true) true 35 (.agg cs) d p)(hw:(d.weights prog 35).all (·≤reachBytes)=true):
  ∃ (k a:Int) (nm:LB) (n:Int) (s:LB) (ls:List LB) (args:List Ab) (arms:List (Ak×Ab)) (A5:Option Addr) (n5 c5:Nat) (A6:Option Addr) (n6 c6:Nat) (A7:Option Addr) (n7 c7:Nat),
   cs = #[vI k,vI a,vS nm,vI n,vS s,.slice A5 n5 c5,.slice A6 n6 c6,.slice A7 n7 c7]∧Aj w (fun b=>b<w.heap.size) (.mk k a nm n s ls args arms) [vI k,vI a,vS nm,vI n,vS s,.slice A5 n5 c5,.slice A6 n6 c6,.slice A7 n7 c7]∧WtE (.mk k a nm n s ls args arms):=by
 obtain⟨fuel,hf⟩:=h;obtain⟨t,hx,hwt⟩:=My (fuel+1) fuel (Nat.lt_succ_self _) _ _ hf;have hwt:=hwt hw;have hcs:(Value.agg cs).cells.toList=cs.toList:=rfl;rw[hcs] at hx;generalize hl:cs.toList=l at hx;have hx0:=hx
 cases hx with
 | mk c5 c6 cp ce h5 e5 h6 e6 h7 e7 e8 =>
  obtain⟨_,_,rfl⟩:=h5.form;obtain⟨_,_,rfl⟩:=h6.form;obtain⟨_,_,rfl⟩:=h7.form;refine⟨_,_,_,_,_,_,_,_,_,_,_,_,_,_,_,_,_,?_,hx0,hwt⟩;rw[← Array.toArray_toList (xs:=cs),hl]
end
end
theorem inN_of{n:Int}(h:Nm n):inN n:=by
 unfold Nm at h;simp only[Lit.wf,IntKind.min,IntKind.max,IntKind.signed,IntKind.bits,Ba',decide_eq_true_eq,if_true] at h;unfold inN;omega
def Cj:List LB→Int→Int
 | [],n=>n
 | x::l,n=>if 0<n then Cj l (n-(x.length+1))else n
mutual
def Dd:Ak→Int→Int
 | .mk _ _ nm _ s ls args,n=>Dh args (Cj ls (n-(nm.length+s.length+1)))
def Dh:List Ak→Int→Int
 | [],n=>n
 | x::l,n=>if 0<n then Dh l (Dd x n)else n
end
mutual
def Dq:Ab→Int→Int
 | .mk _ _ nm _ s ls args arms,n=>Dt arms (Dg args (Cj ls (n-(nm.length+s.length+1))))
def Dg:List Ab→Int→Int
 | [],n=>n
 | x::l,n=>if 0<n then Dg l (Dq x n)else n
def Dt:List (Ak×Ab)→Int→Int
 | [],n=>n
 | x::l,n=>if 0<n then Dt l (Pr x n)else n
def Pr:Ak×Ab→Int→Int
 | (p,x),n=>Dq x (Dd p n)
end
theorem Rl{ls:List LB}{i:Nat}{x:LB}(h:ls[i]?=some x)(n:Int)(hn:0<n):Cj (ls.drop i) n=Cj (ls.drop (i+1)) (n-(x.length+1)):=by
 obtain⟨hi,e⟩:=List.getElem?_eq_some_iff.1 h;rw[List.drop_eq_getElem_cons hi,e,Cj,if_pos hn]
theorem longPs_at{l:List Ak}{i:Nat}{x:Ak}(h:l[i]?=some x)(n:Int)(hn:0<n):Dh (l.drop i) n=Dh (l.drop (i+1)) (Dd x n):=by
 obtain⟨hi,e⟩:=List.getElem?_eq_some_iff.1 h;rw[List.drop_eq_getElem_cons hi,e,Dh,if_pos hn]
theorem longEs_at{l:List Ab}{i:Nat}{x:Ab}(h:l[i]?=some x)(n:Int)(hn:0<n):Dg (l.drop i) n=Dg (l.drop (i+1)) (Dq x n):=by
 obtain⟨hi,e⟩:=List.getElem?_eq_some_iff.1 h;rw[List.drop_eq_getElem_cons hi,e,Dg,if_pos hn]
theorem longAs_at{l:List (Ak×Ab)}{i:Nat}{p:Ak}{x:Ab}(h:l[i]?=some (p,x))(n:Int)(hn:0<n):Dt (l.drop i) n=Dt (l.drop (i+1)) (Dq x (Dd p n)):=by
 obtain⟨hi,e⟩:=List.getElem?_eq_some_iff.1 h;rw[List.drop_eq_getElem_cons hi,e,Dt,if_pos hn,Pr]
theorem Lg:∀ (l:List LB)(n:Int),n≤0→Cj l n=n
 | [],_,_=>rfl
 | _::_,_,h=>by rw[Cj,if_neg (by omega)]
theorem Pv:∀ (l:List Ak)(n:Int),n≤0→Dh l n=n
 | [],_,_=>by rw[Dh]
 | _::_,_,h=>by rw[Dh,if_neg (by omega)]
theorem Xb:∀ (l:List Ab)(n:Int),n≤0→Dg l n=n
 | [],_,_=>by rw[Dg]
 | _::_,_,h=>by rw[Dg,if_neg (by omega)]
theorem W9:∀ (l:List (Ak×Ab))(n:Int),n≤0→Dt l n=n
 | [],_,_=>by rw[Dt]
 | _::_,_,h=>by rw[Dt,if_neg (by omega)]
def LW:Int:=1125899906842624
theorem Gk:∀ (l:List LB)(n:Int),Cj l n≤n
 | [],_=>by simp[Cj]
 | x::l,n=>by
  rw[Cj];split
  ·have:=Gk l (n-(x.length+1));omega
  ·omega
theorem Rm:∀ (l:List LB)(n:Int),(∀ (i:Nat)(x:LB),l[i]?=some x→x.length≤reachBytes)→0<n∨-LW≤n→-LW≤Cj l n
 | [],n,_,h=>by simp only[Cj];unfold LW at *;omega
 | x::l,n,hl,h=>by
  rw[Cj];split
  ·have h0:=hl 0 x rfl;refine Rm l _ (fun i y hy=>hl (i+1) y hy) ?_;unfold LW reachBytes at *;omega
  ·unfold LW at *;omega
mutual
theorem Is:∀ (x:Ak)(n:Int),Dd x n≤n
 | .mk k a nm m s ls args,n=>by
  rw[Dd];have h1:=Hk args (Cj ls (n-(nm.length+s.length+1)));have h2:=Gk ls (n-(nm.length+s.length+1));omega
theorem Hk:∀ (l:List Ak)(n:Int),Dh l n≤n
 | [],n=>by simp[Dh]
 | x::l,n=>by
  rw[Dh];have h1:=Hk l (Dd x n);have h2:=Is x n;split <;> omega
end
mutual
theorem Hu:∀ (x:Ab)(n:Int),Dq x n≤n
 | .mk k a nm m s ls args arms,n=>by
  rw[Dq];have h0:=Hi arms (Dg args (Cj ls (n-(nm.length+s.length+1))));have h1:=Hj args (Cj ls (n-(nm.length+s.length+1)));have h2:=Gk ls (n-(nm.length+s.length+1));omega
theorem Hj:∀ (l:List Ab)(n:Int),Dg l n≤n
 | [],n=>by simp[Dg]
 | x::l,n=>by
  rw[Dg];have h1:=Hj l (Dq x n);have h2:=Hu x n;split <;> omega
theorem Hi:∀ (l:List (Ak×Ab))(n:Int),Dt l n≤n
 | [],n=>by simp[Dt]
 | x::l,n=>by
  rw[Dt];have h1:=Hi l (Pr x n);have h2:=longA_le x n;split <;> omega
theorem longA_le:∀ (x:Ak×Ab)(n:Int),Pr x n≤n
 | (p,x),n=>by
  rw[Pr];have h1:=Hu x (Dd p n);have h2:=Is p n;omega
end
mutual
theorem U7:∀ (x:Ak)(n:Int),WtP x→(0<n→-LW≤Dd x n)∧(n≤0→n-LW≤Dd x n)
 | .mk k a nm m s ls args,n,.mk hk h1 h2 h3 h4 h5 h6=>by
  rw[Dd];constructor
  ·intro hn;exact Ro args _ h6 (.inr (Rm ls _ h4 (.inr (by unfold LW reachBytes at *;omega))))
  ·intro hn;have e:n-(nm.length+s.length+1)≤0:=by omega
   rw[Lg _ _ e,Pv _ _ e];unfold LW reachBytes at *;omega
theorem Ro:∀ (l:List Ak)(n:Int),(∀ (i:Nat)(x:Ak),l[i]?=some x→WtP x)→0<n∨-LW≤n→-LW≤Dh l n
 | [],n,_,h=>by rw[Dh];unfold LW at *;omega
 | x::l,n,hl,h=>by
  rw[Dh];split
  ·exact Ro l _ (fun i y hy=>hl (i+1) y hy) (.inr ((U7 x n (hl 0 x rfl)).1 (by assumption)))
  ·omega
end
theorem Lh:∀ (l:List LB)(n:Int),0<Cj l n→n≤65536→∀ x ∈ l,x.length≤65536
 | [],_,_,_=>fun x hx=>by cases hx
 | y::l,n,h,hn=>fun x hx=>by
  rw[Cj] at h;split at h
  ·have h1:=Gk l (n-(y.length+1));rcases List.mem_cons.1 hx with rfl|hx
   ·omega
   ·exact Lh l _ h (by omega) x hx
  ·omega
mutual
theorem Mv:∀ (x:Ak)(n:Int),WtP x→0<Dd x n→n≤65536→Dd x n+szP x≤n∧SwP x
 | .mk k a nm m s ls args,n,.mk hk h1 h2 h3 h4 h5 h6,h,hn=>by
  rw[Dd] at h ⊢;obtain⟨g1,g2⟩:=Pw args _ h6 h (by have:=Gk ls (n-(nm.length+s.length+1));omega);have g3:=Gk ls (n-(nm.length+s.length+1));have g4:=Hk args (Cj ls (n-(nm.length+s.length+1)));have g5:=Lh ls _ (by omega) (by omega:n-(nm.length+s.length+1)≤65536);simp only[szP];exact⟨by push_cast;omega,⟨by omega,inN_of hk.2.2,by omega,g5⟩,g2⟩
theorem Pw:∀ (l:List Ak)(n:Int),(∀ (i:Nat)(x:Ak),l[i]?=some x→WtP x)→0<Dh l n→n≤65536→Dh l n+Ey l≤n∧Qw l
 | [],n,_,h,_=>by rw[Dh] at h ⊢;simp only[Ey];exact⟨by omega,trivial⟩
 | x::l,n,hl,h,hn=>by
  rw[Dh] at h ⊢;split at h
  ·rename_i h0
   rw[if_pos h0];have g:=Is x n;obtain⟨g1,g2⟩:=Pw l _ (fun i y hy=>hl (i+1) y hy) h (by omega);have g5:=Hk l (Dd x n);obtain⟨g3,g4⟩:=Mv x n (hl 0 x rfl) (by omega) hn;simp only[Ey];exact⟨by push_cast;omega,g4,g2⟩
  ·omega
end
mutual
theorem Ir:∀ (x:Ab)(n:Int),WtE x→0<Dq x n→n≤65536→Dq x n+szE x≤n∧SwE x
 | .mk k a nm m s ls args arms,n,.mk hk h1 h2 h3 h4 h5 h6 h7 h8 h9,h,hn=>by
  rw[Dq] at h ⊢;have g3:=Gk ls (n-(nm.length+s.length+1));have g4:=Hj args (Cj ls (n-(nm.length+s.length+1)));have g6:=Hi arms (Dg args (Cj ls (n-(nm.length+s.length+1))));obtain⟨g7,g8⟩:=Ps arms _ h8 h9 h (by omega);obtain⟨g1,g2⟩:=Pt args (Cj ls (n-(nm.length+s.length+1))) h6 (by omega) (by omega);have g5:=Lh ls _ (by omega) (by omega:n-(nm.length+s.length+1)≤65536);simp only[szE];exact⟨by push_cast;omega,⟨by omega,inN_of hk.2.2,by omega,g5⟩,g2,g8⟩
theorem Pt:∀ (l:List Ab)(n:Int),(∀ (i:Nat)(x:Ab),l[i]?=some x→WtE x)→0<Dg l n→n≤65536→Dg l n+B1 l≤n∧Im l
 | [],n,_,h,_=>by rw[Dg] at h ⊢;simp only[B1];exact⟨by omega,trivial⟩
 | x::l,n,hl,h,hn=>by
  rw[Dg] at h ⊢;split at h
  ·rename_i h0
   rw[if_pos h0];have g:=Hu x n;obtain⟨g1,g2⟩:=Pt l _ (fun i y hy=>hl (i+1) y hy) h (by omega);have g5:=Hj l (Dq x n);obtain⟨g3,g4⟩:=Ir x n (hl 0 x rfl) (by omega) hn;simp only[B1];exact⟨by push_cast;omega,g4,g2⟩
  ·omega
theorem Ps:∀ (l:List (Ak×Ab))(n:Int),(∀ (i:Nat)(p:Ak)(x:Ab),l[i]?=some (p,x)→WtP p)→(∀ (i:Nat)(p:Ak)(x:Ab),l[i]?=some (p,x)→WtE x)→0<Dt l n→n≤65536→Dt l n+Cd l≤n∧Ny l
 | [],n,_,_,h,_=>by rw[Dt] at h ⊢;simp only[Cd];exact⟨by omega,trivial⟩
 | (p,x)::l,n,hp,hx,h,hn=>by
  rw[Dt] at h ⊢;split at h
  ·rename_i h0
   rw[if_pos h0];rw[Pr] at h ⊢;have g:=Is p n;have g0:=Hu x (Dd p n);have g5:=Hi l (Dq x (Dd p n));obtain⟨g1,g2⟩:=Ps l _ (fun i p y hy=>hp (i+1) p y hy) (fun i p y hy=>hx (i+1) p y hy) h (by omega);obtain⟨g3,g4⟩:=Ir x (Dd p n) (hx 0 p x rfl) (by omega) (by omega);obtain⟨g6,g7⟩:=Mv p n (hp 0 p x rfl) (by omega) hn;simp only[Cd,szA];exact⟨by push_cast;omega,⟨g7,g4⟩,g2⟩
  ·omega
end
theorem stop_end(a:Nat)(tx:LB)(n:Int):Hb ⟨0,a,tx,n⟩ 0:=⟨Ol _ _ _ _ _,by rfl,fun _ _ _=>Ol _ _ _ _ _⟩
theorem Na{x:Ab}(h:Be x=true){us:List Tok}(hE:Gs us)(hm:us.map Lr=tkE x++[(0,[],0)]):∃ y,Bl x y∧Run us (body .seq) ⟨0,true⟩ (.e y) ⟨(tkE x).length,true⟩∧∃ a,us[(tkE x).length]?=some ⟨0,a,[],0⟩:=by
 have hs:=B6.of_map hm;obtain⟨y,hy,hr⟩:=(okE (szE x+1) x (Nat.lt_succ_self _) h).at_ hE (q:=(0,[],0)) (r:=[]) hs (fun a=>stop_end a [] 0) 0 (Nr' _) (by decide);obtain⟨a,ha⟩:=B6.mid (q:=(0,[],0)) (b:=[]) hs;rw[Nat.zero_add] at hr ha;exact⟨y,hy,hr,a,ha⟩
theorem SL.map_eq{α β:Type}{R:α→α→Prop}{f:List α→List β}{g:α→β}(hf0:f []=[])(hf:∀ x l,f (x::l)=g x::f l):∀ {l m:List α},l.length=m.length→(∀ (i:Nat)(x y:α),l[i]?=some x→m[i]?=some y→g x=g y)→f l=f m
 | [],[],_,_=>rfl
 | [],_::_,h,_=>by simp at h
 | _::_,[],h,_=>by simp at h
 | x::l,y::m,h,hg=>by
  rw[hf,hf,hg 0 x y rfl rfl,SL.map_eq (R:=R) hf0 hf (by simpa using h) (fun i u v hu hv=>hg (i+1) u v (by simpa using hu) (by simpa using hv))]
theorem D8.tx{x y:Ak}(h:D8 x y):txP x=txP y:=by
 induction h with
 | mk hl h ih=>rw[txP,txP,SL.map_eq (R:=D8) (f:=Gg) (g:=txP) (by rw[Gg]) (fun x l=>by rw[Gg]) hl ih]
theorem Bl.tx{x y:Ab}(h:Bl x y):txE x=txE y:=by
 induction h with
 | mk hl h hl2 hp hx ih ih2 =>
  rw[txE,txE,SL.map_eq (R:=Bl) (f:=Az) (g:=txE) (by rw[Az]) (fun x l=>by rw[Az]) hl ih,
   SL.map_eq (R:=Tp) (f:=Cr) (g:=txA) (by rw[Cr]) (fun x l=>by rw[Cr]) hl2 (fun i q r hq hr=>by
    obtain⟨p,x⟩:=q
    obtain⟨p',y⟩:=r
    rw[txA,txA,(hp i p p' x y hq hr).tx,ih2 i p p' x y hq hr])]
theorem shown_inj{x y:Ab}(hx:Be x=true)(hy:Be y=true)(hl:(txE x).length≤4096)(h:txE x=txE y):Bl x y:=by
 obtain⟨us,hu,hm⟩:=I6 hl (Kk hx);obtain⟨vs,hv,hn⟩:=I6 (by rw[← h];exact hl) (Kk hy);rw[h,hv] at hu;cases hu;have hE:=Pf (Ji hv);obtain⟨z,hz,hr,_⟩:=Na hx hE hm;obtain⟨w,hw,hr2,_⟩:=Na hy hE hn;obtain⟨e,_⟩:=hr.det hr2;cases e;exact hz.trans hw.symm
theorem Iz{x:Ab}{t:LB}(h:Fl x=(t,0)):t=txE x∧Be x=true∧(txE x).length≤4096∧szE x≤4096∧Dz 200 x=none:=by
 unfold Fl at h;split at h
 ·cases h
 ·split at h
  ·cases h
  ·rename_i h1 h2
   obtain⟨h3,h4,h5⟩:=V9 h;exact⟨h3,h4,h5,by omega,by simpa using h2⟩
theorem Wh{a b:Ab}{s t:LB}(ha:Fl a=(s,0))(hb:Fl b=(t,0)):s=t↔Bl a b:=by
 obtain⟨rfl,hm,hl,hs,hd⟩:=Iz ha;obtain⟨rfl,hm',hl',hs',hd'⟩:=Iz hb;exact⟨fun h=>shown_inj hm hm' hl h,fun h=>h.tx⟩
mutual
def eqE(pl:Bool):Ab→Ab→Bool
 | .mk k a nm n s ls args arms,.mk k' a' nm' n' s' ls' args' arms'=>k==k'&&(!pl||a==a')&&nm==nm'&&n==n'&&s==s'&&ls==ls'&&args.length==args'.length&&arms.length==arms'.length&&Lv pl args args'&&Km pl arms arms'
def Lv(pl:Bool):List Ab→List Ab→Bool
 | x::l,y::m=>eqE pl x y&&Lv pl l m
 | [],_=>true
 | _::_,[]=>true
def Km(pl:Bool):List (Ak×Ab)→List (Ak×Ab)→Bool
 | x::l,y::m=>eqA pl x y&&Km pl l m
 | [],_=>true
 | _::_,[]=>true
def eqA(pl:Bool):Ak×Ab→Ak×Ab→Bool
 | (p,x),(q,y)=>eqP pl p q&&eqE pl x y
end
theorem eqE_mk(pl:Bool)(k a:Int)(nm:LB)(n:Int)(s:LB)(ls:List LB)(args:List Ab)(arms:List (Ak×Ab))(k' a':Int)(nm':LB)(n':Int)(s':LB)(ls':List LB)(args':List Ab)(arms':List (Ak×Ab)):
  eqE pl (.mk k a nm n s ls args arms) (.mk k' a' nm' n' s' ls' args' arms')=(k==k'&&(!pl||a==a')&&nm==nm'&&n==n'&&s==s'&&ls==ls'&&args.length==args'.length&&arms.length==arms'.length&&Lv pl args args'&&Km pl arms arms'):=by rw[eqE]
section
variable {pl:Bool} {i:Nat}
theorem eqEs_at{l m:List Ab}{x y:Ab}(h1:l[i]?=some x)(h2:m[i]?=some y):Lv pl (l.drop i) (m.drop i)=(eqE pl x y&&Lv pl (l.drop (i+1)) (m.drop (i+1))):=by rw[Nl h1,Nl h2,Lv]
theorem eqAs_at{l m:List (Ak×Ab)}{p q:Ak}{x y:Ab}(h1:l[i]?=some (p,x))(h2:m[i]?=some (q,y)):Km pl (l.drop i) (m.drop i)=(eqP pl p q&&eqE pl x y&&Km pl (l.drop (i+1)) (m.drop (i+1))):=by rw[Nl h1,Nl h2,Km,eqA]
theorem eqEs_end{l m:List Ab}(h:l.length≤i):Lv pl (l.drop i) m=true:=by rw[List.drop_eq_nil_of_le h,Lv]
theorem eqAs_end{l m:List (Ak×Ab)}(h:l.length≤i):Km pl (l.drop i) m=true:=by rw[List.drop_eq_nil_of_le h,Km]
end
section
attribute [local go_sem ↓] Go.wp_at_zero Go.wp_at_succ
theorem Pe{w0 W:World}{g o:Nat}(hg:g<w0.heap.size)(hf:Fr [] w0 W){v0 v1 v2 v3 v4 v5 v6 v7:Value}(hc:∀ (j:Nat)(v:Value),[v0,v1,v2,v3,v4,v5,v6,v7][j]?=some v→w0.cell? ⟨g,o+j,none⟩=some v):
  W.cell? ⟨g,o,none⟩=some v0∧W.cell? ⟨g,o+1,none⟩=some v1∧W.cell? ⟨g,o+2,none⟩=some v2∧W.cell? ⟨g,o+3,none⟩=some v3∧W.cell? ⟨g,o+4,none⟩=some v4∧W.cell? ⟨g,o+5,none⟩=some v5∧W.cell? ⟨g,o+6,none⟩=some v6∧W.cell? ⟨g,o+7,none⟩=some v7:=by
 have h:∀ (j:Nat) (v:Value),[v0,v1,v2,v3,v4,v5,v6,v7][j]?=some v→W.cell? ⟨g,o+j,none⟩=some v:=fun j v hv=>kcell hf (hc j v hv) hg
 exact⟨h 0 _ rfl,h 1 _ rfl,h 2 _ rfl,h 3 _ rfl,h 4 _ rfl,h 5 _ rfl,h 6 _ rfl,h 7 _ rfl⟩
def SQE(N:Nat):Prop:=∀ (k a:Int)(nm:LB)(n:Int)(s:LB)(ls:List LB)(args:List Ab)(arms:List (Ak×Ab))(A5 A6 A7:Option Addr)(cc5 cc6 cc7:Nat)(k' a':Int)(nm':LB)(n':Int)(s':LB)(ls':List LB)(args':List Ab)(arms':List (Ak×Ab))(A5' A6' A7':Option Addr)(cc5' cc6' cc7':Nat)(pl:Bool)(w:World)(ok ok':Nat→Prop),laE (.mk k a nm n s ls args arms)<N→laE (.mk k a nm n s ls args arms)≤1099511627776→laE (.mk k' a' nm' n' s' ls' args' arms')≤1099511627776 →
  Aj w ok (.mk k a nm n s ls args arms) [vI k,vI a,vS nm,vI n,vS s,.slice A5 ls.length cc5,.slice A6 args.length cc6,.slice A7 arms.length cc7]→Aj w ok' (.mk k' a' nm' n' s' ls' args' arms') [vI k',vI a',vS nm',vI n',vS s',.slice A5' ls'.length cc5',.slice A6' args'.length cc6',.slice A7' arms'.length cc7'] →
  Calls prog 19 #[.agg #[vI k,vI a,vS nm,vI n,vS s,.slice A5 ls.length cc5,.slice A6 args.length cc6,.slice A7 arms.length cc7],.agg #[vI k',vI a',vS nm',vI n',vS s',.slice A5' ls'.length cc5',.slice A6' args'.length cc6',.slice A7' arms'.length cc7'],.bool pl] w fun e w'=>e = .returned (.bool (eqE pl (.mk k a nm n s ls args arms) (.mk k' a' nm' n' s' ls' args' arms')))∧Fr [] w w'
theorem eqe_step(N:Nat)(ih:SQE N):SQE (N+1):=by
 intro k a nm n s ls args arms A5 A6 A7 cc5 cc6 cc7 k' a' nm' n' s' ls' args' arms' A5' A6' A7' cc5' cc6' cc7' pl w ok ok' hN hz hz' hx hy
 cases hx with
 | mk c5 c6 cp ce h5 e5 h6 e6 h7 e7 e8 =>
 cases hy with
 | mk d5 d6 dp de h5' e5' h6' e6' h7' e7' e8' =>
 have hsz:laE (.mk k a nm n s ls args arms)=1+ls.length+(D7 args+D6 arms):=by simp[laE]
 have hsz':laE (.mk k' a' nm' n' s' ls' args' arms')=1+ls'.length+(D7 args'+D6 arms'):=by simp[laE]
 rw[hsz] at hN hz;rw[hsz'] at hz';clear hsz hsz';have hm6:(args.length:Int)≤1099511627776:=by have:=Yo args;omega
 have hm6':(args'.length:Int)≤1099511627776:=by have:=Yo args';omega
 have hm7:(arms.length:Int)≤1099511627776:=by have:=Yn arms;omega
 have hm7':(arms'.length:Int)≤1099511627776:=by have:=Yn arms';omega
 have IH:=Hz ih;have H6:=Hz h6;have H6':=Hz h6';have E6:Hid (∀ (i:Nat) (x:Ab),args[i]?=some x→Aj w ok x (c6 i)):=Hz e6;have E6':Hid (∀ (i:Nat) (x:Ab),args'[i]?=some x→Aj w ok' x (d6 i)):=Hz e6';have H7:=Hz h7;have H7':=Hz h7';have E7:Hid (∀ (i:Nat) (p:Ak) (x:Ab),arms[i]?=some (p,x)→Bd w ok p (cp i)):=Hz e7;have E7':Hid (∀ (i:Nat) (p:Ak) (x:Ab),arms'[i]?=some (p,x)→Bd w ok' p (dp i)):=Hz e7';have E8:Hid (∀ (i:Nat) (p:Ak) (x:Ab),arms[i]?=some (p,x)→Aj w ok x (ce i)):=Hz e8;have E8':Hid (∀ (i:Nat) (p:Ak) (x:Ab),arms'[i]?=some (p,x)→Aj w ok' x (de i)):=Hz e8';have cT:=fun W (hW:Fr [] w W)=>Hz (textsB ls ls' (by omega) (by omega) A5 A5' cc5 cc5' W (h5.keep (ok':=ok) (Sh.of_fr hW (fun b hb _=>⟨hb,fun x=>by cases x⟩))) e5 (h5'.keep (ok':=ok') (Sh.of_fr hW (fun b hb _=>⟨hb,fun x=>by cases x⟩))) e5')
 clear ih h5 e5 h6 e6 h5' e5' h6' e6' h7 e7 e8 h7' e7' e8';have HO:=Hz (eqE_mk pl k a nm n s ls args arms k' a' nm' n' s' ls' args' arms')
 generalize eqE pl (.mk k a nm n s ls args arms) (.mk k' a' nm' n' s' ls' args' arms')=O at *
 generalize hQ:(ls==ls')=Q at *
 have HQ:=Hz hQ;clear hQ;by_cases t:k=k'
 rotate_left
 ·have z:(k != k')=true:=by rw[bne_iff_ne];exact t
  have zb:(k==k')=false:=by rw[bN];exact t
  have hO:=HO.out;simp[zb] at hO;subst hO;clear HO zb;go_enter func19,ntmps19;go_wp2_with fail;go_ret;exact⟨rfl,((Fr.refl [] w).alloc _).alloc _⟩
 subst t;have hpl:(pl=true∧a≠a')∨pl=false∨(pl=true∧a=a'):=by cases pl <;> by_cases e:a=a' <;> simp[e]
 rcases hpl with⟨rfl,t⟩| hpl
 ·have z:(a != a')=true:=by rw[bne_iff_ne];exact t
  have zb:(a==a')=false:=by rw[bN];exact t
  have hO:=HO.out;simp[zb] at hO;subst hO;clear HO zb;go_enter func19,ntmps19;go_wp2_with fail;go_ret;exact⟨rfl,((Fr.refl [] w).alloc _).alloc _⟩
 obtain⟨pl0,hp0⟩:∃ b:Bool,b=pl:=⟨_,rfl⟩
 rcases hpl with rfl|⟨rfl,rfl⟩
 all_goals
  by_cases t:nm=nm'
  rotate_left
  ·have z:(nm==nm')=false:=by rw[bN];exact t
   have zb:=z;have hO:=HO.out;simp[zb] at hO;subst hO;clear HO zb;go_enter func19,ntmps19;go_wp2_with fail;go_ret;exact⟨rfl,((Fr.refl [] w).alloc _).alloc _⟩
  subst t;by_cases t:n=n'
  rotate_left
  ·have z:(n != n')=true:=by rw[bne_iff_ne];exact t
   have zb:(n==n')=false:=by rw[bN];exact t
   have hO:=HO.out;simp[zb] at hO;subst hO;clear HO zb;go_enter func19,ntmps19;go_wp2_with fail;go_ret;exact⟨rfl,((Fr.refl [] w).alloc _).alloc _⟩
  subst t;by_cases t:s=s'
  rotate_left
  ·have z:(s==s')=false:=by rw[bN];exact t
   have zb:=z;have hO:=HO.out;simp[zb] at hO;subst hO;clear HO zb;go_enter func19,ntmps19;go_wp2_with fail;go_ret;exact⟨rfl,((Fr.refl [] w).alloc _).alloc _⟩
  subst t;cases Q
  ·have hO:=HO.out;simp at hO;subst hO;clear HO;go_enter func19,ntmps19;go_wp2_with fail;refine(cT _ (((Fr.refl [] w).alloc _).alloc _)).out.mono ?_;rintro e w1 ⟨rfl,f1⟩;go_wp2_with fail;go_ret;exact⟨rfl,(((Fr.refl [] w).alloc _).alloc _).trans f1⟩
  obtain rfl:ls=ls':=by have:=HQ.out;simpa using this
  clear HQ;by_cases t:args.length=args'.length
  rotate_left
  ·have z:((args.length:Int)!=(args'.length:Int))=true:=by rw[bne_iff_ne];omega
   have zb:(args.length==args'.length)=false:=by rw[bN];exact t
   have hO:=HO.out;simp[zb] at hO;subst hO;clear HO zb;go_enter func19,ntmps19;go_wp2_with fail;refine(cT _ (((Fr.refl [] w).alloc _).alloc _)).out.mono ?_;rintro e w1 ⟨rfl,f1⟩;have q3:=f1.keep (Af (Ad w _) _) nE;have q4:=f1.keep (Ad (w.alloc _) _) nE;rw[Nr] at q4;have hT2:w.heap.size+2≤w1.heap.size:=by have:=f1.size;simp at this;omega
   have t6:=Ae q3 6;have t6':=Ae q4 6;go_wp2_with fail;go_ret;exact⟨rfl,(((Fr.refl [] w).alloc _).alloc _).trans f1⟩
  by_cases tm:arms.length=arms'.length
  rotate_left
  ·have z:((arms.length:Int)!=(arms'.length:Int))=true:=by rw[bne_iff_ne];omega
   have zb:(arms.length==arms'.length)=false:=by rw[bN];exact tm
   have hO:=HO.out;simp[zb] at hO;subst hO;clear HO zb;go_enter func19,ntmps19;go_wp2_with fail;refine(cT _ (((Fr.refl [] w).alloc _).alloc _)).out.mono ?_;rintro e w1 ⟨rfl,f1⟩;have q3:=f1.keep (Af (Ad w _) _) nE;have q4:=f1.keep (Ad (w.alloc _) _) nE;rw[Nr] at q4;have hT2:w.heap.size+2≤w1.heap.size:=by have:=f1.size;simp at this;omega
   rw[← t] at q4;have t6:=Ae q3 6;have t6':=Ae q4 6;have t7:=Ae q3 7;have t7':=Ae q4 7;go_wp2_with fail;go_ret;exact⟨rfl,(((Fr.refl [] w).alloc _).alloc _).trans f1⟩
  have HO1:Hid (O=(Lv pl0 (args.drop 0) (args'.drop 0)&&Km pl0 arms arms')):=Hz (by have:=HO.out;rw[hp0];simpa [t,tm] using this);have HTL:=Hz t;have HP0:=Hz hp0;rw[← t] at H6';have HTM:=Hz tm;rw[← tm] at H7';clear t HO hp0 tm;go_enter func19,ntmps19;go_wp2_with fail;refine(cT _ (((Fr.refl [] w).alloc _).alloc _)).out.mono ?_;rintro e w1 ⟨rfl,f1⟩;have q3:=f1.keep (Af (Ad w _) _) nE;have q4:=f1.keep (Ad (w.alloc _) _) nE;rw[Nr] at q4;have hT2:w.heap.size+2≤w1.heap.size:=by have:=f1.size;simp at this;omega
  rw[← HTL.out,← HTM.out] at q4;have f:=(((Fr.refl [] w).alloc _).alloc _).trans f1;clear f1 cT;have t6:=Ae q3 6;have t6':=Ae q4 6;have t7:=Ae q3 7;have t7':=Ae q4 7;go_wp2_with fail;clear t6 t6' t7 t7'
  go_loopw [7] (fun iv wq=>∃ i:Nat,iv=vI i∧i≤args.length∧Fr [] w1 wq∧Hid (O=(Lv pl0 (args.drop i) (args'.drop i)&&Km pl0 arms arms'))) (fun iv wq=>args.length-(intOf iv).toNat)
  case atStart=>exact⟨0,rfl,by omega,Fr.refl _ _,HO1⟩
  case round =>
   obtain⟨i,rfl,hi,fr,HI⟩:=hrel;have q3:=fr.keep q3 nE;have q4:=fr.keep q4 nE;have f:=f.trans fr;have hTw:w.heap.size+2≤wr.heap.size:=Nat.le_trans hT2 fr.size
   generalize hT:w.heap.size=T at *
   have t6:=Ae q3 6;have t6':=Ae q4 6;by_cases hlt:i<args.length
   ·obtain⟨g,og,rfl,_,hg,_,_,hc⟩:=H6.out.row hlt;obtain⟨g',og',rfl,_,hg',_,_,hc'⟩:=H6'.out.row hlt
    obtain⟨x,hx⟩:∃ x,args[i]?=some x:=⟨args[i],Lg' hlt⟩
    obtain⟨y,hy⟩:∃ y,args'[i]?=some y:=⟨args'[i]'(by rw[← HTL.out];exact hlt),Lg' _⟩
    have hI:=HI.out;rw[eqEs_at hx hy] at hI;have hxx:=E6.out i x hx;have hyy:=E6'.out i y hy;have hzx:=Uz hx;have hzy:=Uz hy;clear hx hy HI
    generalize c6 i=ci at *
    generalize d6 i=di at *
    have hxxw:=fun W (hW:Fr [] wr W)=>hxx.keep (w':=W) (ok':=ok) (Sh.of_fr (f.trans hW) (fun b hb _=>⟨hb,fun x=>by cases x⟩))
    have hyyw:=fun W (hW:Fr [] wr W)=>hyy.keep (w':=W) (ok':=ok') (Sh.of_fr (f.trans hW) (fun b hb _=>⟨hb,fun x=>by cases x⟩))
    cases hxx with
    | @mk k2 a2 nm2 n2 s2 ls2 args2 arms2 v5 v6 v7 _ _ _ _ r5 _ r6 _ r7 _ _ =>
    obtain⟨A52,cc52,rfl⟩:=r5.form;obtain⟨A62,cc62,rfl⟩:=r6.form;obtain⟨A72,cc72,rfl⟩:=r7.form;clear r5 r6 r7
    cases hyy with
    | @mk k2' a2' nm2' n2' s2' ls2' args2' arms2' v5 v6 v7 _ _ _ _ r5 _ r6 _ r7 _ _ =>
    obtain⟨A52',cc52',rfl⟩:=r5.form;obtain⟨A62',cc62',rfl⟩:=r6.form;obtain⟨A72',cc72',rfl⟩:=r7.form;clear r5 r6 r7;have HC:=Hz hc;have HC':=Hz hc';clear hc hc';have cX:=fun W (hW:Fr [] wr W)=>Hz (IH.out k2 a2 nm2 n2 s2 ls2 args2 arms2 A52 A62 A72 cc52 cc62 cc72 k2' a2' nm2' n2' s2' ls2' args2' arms2' A52' A62' A72' cc52' cc62' cc72' pl0 W ok ok' (by omega) (by omega) (by omega) (hxxw W hW) (hyyw W hW))
    generalize eqE pl0 (.mk k2 a2 nm2 n2 s2 ls2 args2 arms2) (.mk k2' a2' nm2' n2' s2' ls2' args2' arms2')=bX at *
    simp only[HP0.out] at cX;have HJ:=Hz hI;clear hI hxxw hyyw hzx hzy;have q1:(0:Int)≤(i:Int):=by omega
    have q2:(i:Int)<(args.length:Int):=by omega
    obtain⟨x0,x1,x2,x3,x4,x5,x6,x7⟩:=Pe hg (f) HC.out;obtain⟨y0,y1,y2,y3,y4,y5,y6,y7⟩:=Pe hg' (f) HC'.out;cases bX
    all_goals
     go_wp2_with fail
     go_region_held3 (fun w'=>w'.cell? ⟨T,6,none⟩=some (.slice (some ⟨g,og,none⟩) args.length cc6)∧w'.cell? ⟨T+1,6,none⟩=some (.slice (some ⟨g',og',none⟩) args.length cc6')∧(w'.cell? ⟨g,og+i * 8,none⟩=some (vI k2)∧w'.cell? ⟨g,og+i * 8+1,none⟩=some (vI a2)∧w'.cell? ⟨g,og+i * 8+2,none⟩=some (vS nm2)∧w'.cell? ⟨g,og+i * 8+3,none⟩=some (vI n2)∧w'.cell? ⟨g,og+i * 8+4,none⟩=some (vS s2)∧w'.cell? ⟨g,og+i * 8+5,none⟩=some (.slice A52 ls2.length cc52)∧w'.cell? ⟨g,og+i * 8+6,none⟩=some (.slice A62 args2.length cc62)∧w'.cell? ⟨g,og+i * 8+7,none⟩=some (.slice A72 arms2.length cc72))∧(w'.cell? ⟨g',og'+i * 8,none⟩=some (vI k2')∧w'.cell? ⟨g',og'+i * 8+1,none⟩=some (vI a2')∧w'.cell? ⟨g',og'+i * 8+2,none⟩=some (vS nm2')∧w'.cell? ⟨g',og'+i * 8+3,none⟩=some (vI n2')∧w'.cell? ⟨g',og'+i * 8+4,none⟩=some (vS s2')∧w'.cell? ⟨g',og'+i * 8+5,none⟩=some (.slice A52' ls2'.length cc52')∧w'.cell? ⟨g',og'+i * 8+6,none⟩=some (.slice A62' args2'.length cc62')∧w'.cell? ⟨g',og'+i * 8+7,none⟩=some (.slice A72' arms2'.length cc72'))) (first|go_keep|exact⟨t6,t6',⟨x0,x1,x2,x3,x4,x5,x6,x7⟩,⟨y0,y1,y2,y3,y4,y5,y6,y7⟩⟩) (((with_reducible refine(cX _ ((Fr.refl [] wr).drew)).out.mono ?_);rintro e w3 ⟨rfl,f3⟩;have t6:=Ae ((((Fr.refl [] wr).drew).trans f3).keep q3 nE) 6;have t6':=Ae ((((Fr.refl [] wr).drew).trans f3).keep q4 nE) 6;obtain⟨x0,x1,x2,x3,x4,x5,x6,x7⟩:=Pe hg (f.trans (((Fr.refl [] wr).drew).trans f3)) HC.out;obtain⟨y0,y1,y2,y3,y4,y5,y6,y7⟩:=Pe hg' (f.trans (((Fr.refl [] wr).drew).trans f3)) HC'.out))
     go_wp2_with fail
    ·have hO:=HJ.out;simp at hO;subst hO;go_ret;exact⟨rfl,f.trans (((Fr.refl [] wr).drew).trans f3)⟩
    ·go_roundw
     case rel=>exact⟨i+1,by simp,by omega,fr.trans (((Fr.refl [] wr).drew).trans f3),Hz (by have:=HJ.out;simpa using this)⟩
     case measure=>simp[intOf];omega
   ·have ei:i=args.length:=by omega
    subst ei;have HO2:Hid (O=Km pl0 (arms.drop 0) (arms'.drop 0)):=Hz (by have:=HI.out;rw[eqEs_end (Nr' _)] at this;simpa using this);clear HI;have t7:=Ae q3 7;have t7':=Ae q4 7;go_wp2_with fail;clear t6 t6' t7 t7' hlt hi
    have hw5:∃ w5,w5=wr:=⟨_,rfl⟩
    obtain⟨w5,hw5⟩:=hw5;subst hw5;subst hT;have hT2:=hTw;clear fr hTw
    go_loopw [8] (fun iv wq=>∃ i:Nat,iv=vI i∧i≤arms.length∧Fr [] w5 wq∧Hid (O=(Km pl0 (arms.drop i) (arms'.drop i)))) (fun iv wq=>arms.length-(intOf iv).toNat)
    case atStart=>exact⟨0,rfl,by omega,Fr.refl _ _,HO2⟩
    case round =>
     obtain⟨i,rfl,hi,fr,HI⟩:=hrel;have q3:=fr.keep q3 nE;have q4:=fr.keep q4 nE;have f:=f.trans fr;have hTw:w.heap.size+2≤wr.heap.size:=Nat.le_trans hT2 fr.size
     generalize hT:w.heap.size=T at *
     have t6:=Ae q3 7;have t6':=Ae q4 7;by_cases hlt:i<arms.length
     ·obtain⟨g,og,rfl,_,hg,_,_,hc⟩:=H7.out.row hlt;obtain⟨g',og',rfl,_,hg',_,_,hc'⟩:=H7'.out.row hlt
      obtain⟨p,x,hx⟩:∃ p x,arms[i]?=some (p,x):=⟨(arms[i]).1,(arms[i]).2,Lg' hlt⟩
      obtain⟨p',y,hy⟩:∃ p' y,arms'[i]?=some (p',y):=⟨(arms'[i]'(by rw[← HTM.out];exact hlt)).1,(arms'[i]'(by rw[← HTM.out];exact hlt)).2,Lg' _⟩
      have hI:=HI.out;rw[eqAs_at hx hy] at hI;have hxx:=E8.out i p x hx;have hyy:=E8'.out i p' y hy;have hpp:=E7.out i p x hx;have hpp':=E7'.out i p' y hy;have hzx:=Uy hx;have hzy:=Uy hy;clear hx hy HI
      try dsimp only at hc hc'
      generalize cp i=cpi at *
      generalize dp i=dpi at *
      generalize ce i=ci at *
      generalize de i=di at *
      have hxxw:=fun W (hW:Fr [] wr W)=>hxx.keep (w':=W) (ok':=ok) (Sh.of_fr (f.trans hW) (fun b hb _=>⟨hb,fun x=>by cases x⟩))
      have hyyw:=fun W (hW:Fr [] wr W)=>hyy.keep (w':=W) (ok':=ok') (Sh.of_fr (f.trans hW) (fun b hb _=>⟨hb,fun x=>by cases x⟩))
      have hppw:=fun W (hW:Fr [] wr W)=>hpp.keep (w':=W) (ok':=ok) (Sh.of_fr (f.trans hW) (fun b hb _=>⟨hb,fun x=>by cases x⟩))
      have hpp'w:=fun W (hW:Fr [] wr W)=>hpp'.keep (w':=W) (ok':=ok') (Sh.of_fr (f.trans hW) (fun b hb _=>⟨hb,fun x=>by cases x⟩))
      cases hxx with
      | @mk k2 a2 nm2 n2 s2 ls2 args2 arms2 v5 v6 v7 _ _ _ _ r5 _ r6 _ r7 _ _ =>
      obtain⟨A52,cc52,rfl⟩:=r5.form;obtain⟨A62,cc62,rfl⟩:=r6.form;obtain⟨A72,cc72,rfl⟩:=r7.form;clear r5 r6 r7
      cases hyy with
      | @mk k2' a2' nm2' n2' s2' ls2' args2' arms2' v5 v6 v7 _ _ _ _ r5 _ r6 _ r7 _ _ =>
      obtain⟨A52',cc52',rfl⟩:=r5.form;obtain⟨A62',cc62',rfl⟩:=r6.form;obtain⟨A72',cc72',rfl⟩:=r7.form;clear r5 r6 r7
      cases hpp with
      | @mk k3 a3 nm3 n3 s3 ls3 args3 v5 v6 _ _ r5 _ r6 _ =>
      obtain⟨A53,cc53,rfl⟩:=r5.form;obtain⟨A63,cc63,rfl⟩:=r6.form;clear r5 r6
      cases hpp' with
      | @mk k3' a3' nm3' n3' s3' ls3' args3' v5 v6 _ _ r5 _ r6 _ =>
      obtain⟨A53',cc53',rfl⟩:=r5.form;obtain⟨A63',cc63',rfl⟩:=r6.form;clear r5 r6;have HC:=Hz hc;have HC':=Hz hc';clear hc hc';have cX:=fun W (hW:Fr [] wr W)=>Hz (IH.out k2 a2 nm2 n2 s2 ls2 args2 arms2 A52 A62 A72 cc52 cc62 cc72 k2' a2' nm2' n2' s2' ls2' args2' arms2' A52' A62' A72' cc52' cc62' cc72' pl0 W ok ok' (by omega) (by omega) (by omega) (hxxw W hW) (hyyw W hW))
      have cP:=fun W (hW:Fr [] wr W)=>Hz (So (laP (.mk k3 a3 nm3 n3 s3 ls3 args3)+1) k3 a3 nm3 n3 s3 ls3 args3 A53 A63 cc53 cc63 k3' a3' nm3' n3' s3' ls3' args3' A53' A63' cc53' cc63' pl0 W ok ok' (by omega) (by omega) (by omega) (hppw W hW) (hpp'w W hW))
      generalize eqE pl0 (.mk k2 a2 nm2 n2 s2 ls2 args2 arms2) (.mk k2' a2' nm2' n2' s2' ls2' args2' arms2')=bX at *
      generalize eqP pl0 (.mk k3 a3 nm3 n3 s3 ls3 args3) (.mk k3' a3' nm3' n3' s3' ls3' args3')=bP at *
      simp only[HP0.out] at cX cP;have HJ:=Hz hI;clear hI hxxw hyyw hzx hzy hppw hpp'w;have q1:(0:Int)≤(i:Int):=by omega
      have q2:(i:Int)<(arms.length:Int):=by omega
      obtain⟨x0,x1,x2,x3,x4,x5,x6,x7,x8,x9,x10,x11,x12,x13,x14⟩:=Fh hg (f) HC.out;obtain⟨y0,y1,y2,y3,y4,y5,y6,y7,y8,y9,y10,y11,y12,y13,y14⟩:=Fh hg' (f) HC'.out;cases bP
      ·go_wp2_with fail;refine wp_region_held_drew (S:=(fun w'=>w'.cell? ⟨T,7,none⟩=some (.slice (some ⟨g,og,none⟩) arms.length cc7)∧w'.cell? ⟨T+1,7,none⟩=some (.slice (some ⟨g',og',none⟩) arms.length cc7')∧(w'.cell? ⟨g,og+i * 15,none⟩=some (vI k3)∧w'.cell? ⟨g,og+i * 15+1,none⟩=some (vI a3)∧w'.cell? ⟨g,og+i * 15+2,none⟩=some (vS nm3)∧w'.cell? ⟨g,og+i * 15+3,none⟩=some (vI n3)∧w'.cell? ⟨g,og+i * 15+4,none⟩=some (vS s3)∧w'.cell? ⟨g,og+i * 15+5,none⟩=some (.slice A53 ls3.length cc53)∧w'.cell? ⟨g,og+i * 15+6,none⟩=some (.slice A63 args3.length cc63)∧w'.cell? ⟨g,og+i * 15+7,none⟩=some (vI k2)∧w'.cell? ⟨g,og+i * 15+8,none⟩=some (vI a2)∧w'.cell? ⟨g,og+i * 15+9,none⟩=some (vS nm2)∧w'.cell? ⟨g,og+i * 15+10,none⟩=some (vI n2)∧w'.cell? ⟨g,og+i * 15+11,none⟩=some (vS s2)∧w'.cell? ⟨g,og+i * 15+12,none⟩=some (.slice A52 ls2.length cc52)∧w'.cell? ⟨g,og+i * 15+13,none⟩=some (.slice A62 args2.length cc62)∧w'.cell? ⟨g,og+i * 15+14,none⟩=some (.slice A72 arms2.length cc72))∧(w'.cell? ⟨g',og'+i * 15,none⟩=some (vI k3')∧w'.cell? ⟨g',og'+i * 15+1,none⟩=some (vI a3')∧w'.cell? ⟨g',og'+i * 15+2,none⟩=some (vS nm3')∧w'.cell? ⟨g',og'+i * 15+3,none⟩=some (vI n3')∧w'.cell? ⟨g',og'+i * 15+4,none⟩=some (vS s3')∧w'.cell? ⟨g',og'+i * 15+5,none⟩=some (.slice A53' ls3'.length cc53')∧w'.cell? ⟨g',og'+i * 15+6,none⟩=some (.slice A63' args3'.length cc63')∧w'.cell? ⟨g',og'+i * 15+7,none⟩=some (vI k2')∧w'.cell? ⟨g',og'+i * 15+8,none⟩=some (vI a2')∧w'.cell? ⟨g',og'+i * 15+9,none⟩=some (vS nm2')∧w'.cell? ⟨g',og'+i * 15+10,none⟩=some (vI n2')∧w'.cell? ⟨g',og'+i * 15+11,none⟩=some (vS s2')∧w'.cell? ⟨g',og'+i * 15+12,none⟩=some (.slice A52' ls2'.length cc52')∧w'.cell? ⟨g',og'+i * 15+13,none⟩=some (.slice A62' args2'.length cc62')∧w'.cell? ⟨g',og'+i * 15+14,none⟩=some (.slice A72' arms2'.length cc72')))) (by kernel_rfl) ?_ (fun hHeld=>?_)
       ·exact⟨t6,t6',⟨x0,x1,x2,x3,x4,x5,x6,x7,x8,x9,x10,x11,x12,x13,x14⟩,⟨y0,y1,y2,y3,y4,y5,y6,y7,y8,y9,y10,y11,y12,y13,y14⟩⟩
       refine wpAnyH_take (i:=0) (oi:={ dst:=some 98,op:=_,type:=_,pos:=_,after:=_,guard:=_ }) (v:=?_) rfl (by kernel_rfl) (by kernel_rfl) (by kernel_rfl) (fun _ _ _ h=>h) (Or.inl ⟨by rfl,?_⟩) (by assumption) ?_
       rotate_left
       ·intro w hSw;(try dsimp only at hSw);go_simp;(try with_reducible rfl)
       try simp only[Act.put,sX]
       refine wpAnyH_take (i:=1) (oi:={ dst:=some 99,op:=_,type:=_,pos:=_,after:=_,guard:=_ }) (v:=?_) rfl (by kernel_rfl) (by kernel_rfl) (by kernel_rfl) (fun _ _ _ h=>h) (Or.inl ⟨by rfl,?_⟩) (by assumption) ?_
       rotate_left
       ·intro w hSw;(try dsimp only at hSw);go_simp;(try with_reducible rfl)
       try simp only[Act.put,sX]
       refine wpAnyH_take (i:=2) (oi:={ dst:=some 100,op:=_,type:=_,pos:=_,after:=_,guard:=_ }) (v:=?_) rfl (by kernel_rfl) (by kernel_rfl) (by kernel_rfl) (fun _ _ _ h=>h) (Or.inl ⟨by rfl,?_⟩) (by assumption) ?_
       rotate_left
       ·intro w hSw;(try dsimp only at hSw);go_simp;(try with_reducible rfl)
       try simp only[Act.put,sX]
       refine wpAnyH_take (i:=3) (oi:={ dst:=some 101,op:=_,type:=_,pos:=_,after:=_,guard:=_ }) (v:=?_) rfl (by kernel_rfl) (by kernel_rfl) (by kernel_rfl) (fun _ _ _ h=>h) (Or.inl ⟨by rfl,?_⟩) (by assumption) ?_
       rotate_left
       ·intro w hSw;(try dsimp only at hSw);go_simp;(try with_reducible rfl)
       try simp only[Act.put,sX]
       refine wpAnyH_take (i:=4) (oi:={ dst:=some 102,op:=_,type:=_,pos:=_,after:=_,guard:=_ }) (v:=?_) rfl (by kernel_rfl) (by kernel_rfl) (by kernel_rfl) (fun _ _ _ h=>h) (Or.inl ⟨by rfl,?_⟩) (by assumption) ?_
       rotate_left
       ·intro w hSw;(try dsimp only at hSw);go_simp;(try with_reducible rfl)
       try simp only[Act.put,sX]
       refine wpAnyH_take (i:=5) (oi:={ dst:=some 103,op:=_,type:=_,pos:=_,after:=_,guard:=_ }) (v:=?_) rfl (by kernel_rfl) (by kernel_rfl) (by kernel_rfl) (fun _ _ _ h=>h) (Or.inl ⟨by rfl,?_⟩) (by assumption) ?_
       rotate_left
       ·intro w hSw;(try dsimp only at hSw);go_simp;(try with_reducible rfl)
       try simp only[Act.put,sX]
       refine wpAnyH_take (i:=6) (oi:={ dst:=some 104,op:=_,type:=_,pos:=_,after:=_,guard:=_ }) (v:=?_) rfl (by kernel_rfl) (by kernel_rfl) (by kernel_rfl) (fun _ _ _ h=>h) (Or.inl ⟨by rfl,?_⟩) (by assumption) ?_
       rotate_left
       ·intro w hSw;(try dsimp only at hSw);go_simp;(try with_reducible rfl)
       try simp only[Act.put,sX]
       refine wpAnyH_take (i:=7) (oi:={ dst:=some 105,op:=_,type:=_,pos:=_,after:=_,guard:=_ }) (v:=?_) rfl (by kernel_rfl) (by kernel_rfl) (by kernel_rfl) (fun _ _ _ h=>h) (Or.inl ⟨by rfl,?_⟩) (by assumption) ?_
       rotate_left
       ·intro w hSw;(try dsimp only at hSw);go_simp;(try with_reducible rfl)
       try simp only[Act.put,sX]
       refine wpAnyH_take (i:=8) (oi:={ dst:=some 106,op:=_,type:=_,pos:=_,after:=_,guard:=_ }) (v:=?_) rfl (by kernel_rfl) (by kernel_rfl) (by kernel_rfl) (fun _ _ _ h=>h) (Or.inl ⟨by rfl,?_⟩) (by assumption) ?_
       rotate_left
       ·intro w hSw;(try dsimp only at hSw);go_simp;(try with_reducible rfl)
       try simp only[Act.put,sX]
       refine wpAnyH_take (i:=9) (oi:={ dst:=some 107,op:=_,type:=_,pos:=_,after:=_,guard:=_ }) (v:=?_) rfl (by kernel_rfl) (by kernel_rfl) (by kernel_rfl) (fun _ _ _ h=>h) (Or.inl ⟨by rfl,?_⟩) (by assumption) ?_
       rotate_left
       ·intro w hSw;(try dsimp only at hSw);go_simp;(try with_reducible rfl)
       try simp only[Act.put,sX]
       refine wpAnyH_take (i:=10) (oi:={ dst:=some 108,op:=_,type:=_,pos:=_,after:=_,guard:=_ }) (v:=?_) rfl (by kernel_rfl) (by kernel_rfl) (by kernel_rfl) (fun _ _ _ h=>h) (Or.inl ⟨by rfl,?_⟩) (by assumption) ?_
       rotate_left
       ·intro w hSw;(try dsimp only at hSw);go_simp;(try with_reducible rfl)
       try simp only[Act.put,sX]
       refine wpAnyH_take (i:=11) (oi:={ dst:=some 109,op:=_,type:=_,pos:=_,after:=_,guard:=_ }) (v:=?_) rfl (by kernel_rfl) (by kernel_rfl) (by kernel_rfl) (fun _ _ _ h=>h) (Or.inl ⟨by rfl,?_⟩) (by assumption) ?_
       rotate_left
       ·intro w hSw;(try dsimp only at hSw);go_simp;(try with_reducible rfl)
       try simp only[Act.put,sX]
       refine wpAnyH_take (i:=12) (oi:={ dst:=some 110,op:=_,type:=_,pos:=_,after:=_,guard:=_ }) (v:=?_) rfl (by kernel_rfl) (by kernel_rfl) (by kernel_rfl) (fun _ _ _ h=>h) (Or.inl ⟨by rfl,?_⟩) (by assumption) ?_
       rotate_left
       ·intro w hSw;(try dsimp only at hSw);go_simp;(try with_reducible rfl)
       try simp only[Act.put,sX]
       refine wpAnyH_ready (rs:=[13]) (by kernel_rfl) (by simp) ?_;refine AllReadyH.cons (o:={ dst:=some 111,op:=_,type:=_,pos:=_,after:=_,guard:=_ }) rfl (fun K hK=>?_) AllReadyH.nil;go_simp;(with_reducible refine(cP _ ((Fr.refl [] wr).drew)).out.mono ?_);rintro e w3 ⟨rfl,f3⟩;have t6:=Ae ((((Fr.refl [] wr).drew).trans f3).keep q3 nE) 7;have t6':=Ae ((((Fr.refl [] wr).drew).trans f3).keep q4 nE) 7;obtain⟨x0,x1,x2,x3,x4,x5,x6,x7,x8,x9,x10,x11,x12,x13,x14⟩:=Fh hg (f.trans (((Fr.refl [] wr).drew).trans f3)) HC.out;obtain⟨y0,y1,y2,y3,y4,y5,y6,y7,y8,y9,y10,y11,y12,y13,y14⟩:=Fh hg' (f.trans (((Fr.refl [] wr).drew).trans f3)) HC'.out;go_simp;refine hK.out _ _ ?_ (fun hHeld=>?_)
       ·exact⟨t6,t6',⟨x0,x1,x2,x3,x4,x5,x6,x7,x8,x9,x10,x11,x12,x13,x14⟩,⟨y0,y1,y2,y3,y4,y5,y6,y7,y8,y9,y10,y11,y12,y13,y14⟩⟩
       clear hK K
       try simp only[Act.put,sX]
       refine wpAnyH_take (i:=14) (oi:={ dst:=some 112,op:=_,type:=_,pos:=_,after:=_,guard:=_ }) (v:=?_) rfl (by kernel_rfl) (by kernel_rfl) (by kernel_rfl) (fun _ _ _ h=>h) (Or.inl ⟨by rfl,?_⟩) (by assumption) ?_
       rotate_left
       ·intro w hSw;(try dsimp only at hSw);go_simp;(try with_reducible rfl)
       try simp only[Act.put,sX]
       refine wpAnyH_take (i:=15) (oi:={ dst:=some 113,op:=_,type:=_,pos:=_,after:=_,guard:=_ }) (v:=?_) rfl (by kernel_rfl) (by kernel_rfl) (by kernel_rfl) (fun _ _ _ h=>h) (Or.inl ⟨by rfl,?_⟩) (by assumption) ?_
       rotate_left
       ·intro w hSw;(try dsimp only at hSw);go_simp;(try with_reducible rfl)
       try simp only[Act.put,sX]
       refine wpAnyH_take (i:=16) (oi:={ dst:=some 114,op:=_,type:=_,pos:=_,after:=_,guard:=_ }) (v:=_) rfl (by kernel_rfl) (by kernel_rfl) (by kernel_rfl) (fun _ _ _ h=>h) (Or.inr ⟨by rfl,rfl⟩) (by assumption) ?_
       try simp only[Act.put,sX]
       refine wpAnyH_take (i:=17) (oi:={ dst:=some 115,op:=_,type:=_,pos:=_,after:=_,guard:=_ }) (v:=_) rfl (by kernel_rfl) (by kernel_rfl) (by kernel_rfl) (fun _ _ _ h=>h) (Or.inr ⟨by rfl,rfl⟩) (by assumption) ?_
       try simp only[Act.put,sX]
       refine wpAnyH_take (i:=18) (oi:={ dst:=some 116,op:=_,type:=_,pos:=_,after:=_,guard:=_ }) (v:=_) rfl (by kernel_rfl) (by kernel_rfl) (by kernel_rfl) (fun _ _ _ h=>h) (Or.inr ⟨by rfl,rfl⟩) (by assumption) ?_
       try simp only[Act.put,sX]
       refine wpAnyH_take (i:=19) (oi:={ dst:=some 117,op:=_,type:=_,pos:=_,after:=_,guard:=_ }) (v:=_) rfl (by kernel_rfl) (by kernel_rfl) (by kernel_rfl) (fun _ _ _ h=>h) (Or.inr ⟨by rfl,rfl⟩) (by assumption) ?_
       try simp only[Act.put,sX]
       refine wpAnyH_take (i:=20) (oi:={ dst:=some 118,op:=_,type:=_,pos:=_,after:=_,guard:=_ }) (v:=_) rfl (by kernel_rfl) (by kernel_rfl) (by kernel_rfl) (fun _ _ _ h=>h) (Or.inr ⟨by rfl,rfl⟩) (by assumption) ?_
       try simp only[Act.put,sX]
       refine wpAnyH_take (i:=21) (oi:={ dst:=some 119,op:=_,type:=_,pos:=_,after:=_,guard:=_ }) (v:=_) rfl (by kernel_rfl) (by kernel_rfl) (by kernel_rfl) (fun _ _ _ h=>h) (Or.inr ⟨by rfl,rfl⟩) (by assumption) ?_
       try simp only[Act.put,sX]
       refine wpAnyH_take (i:=22) (oi:={ dst:=some 120,op:=_,type:=_,pos:=_,after:=_,guard:=_ }) (v:=_) rfl (by kernel_rfl) (by kernel_rfl) (by kernel_rfl) (fun _ _ _ h=>h) (Or.inr ⟨by rfl,rfl⟩) (by assumption) ?_
       try simp only[Act.put,sX]
       refine wpAnyH_take (i:=23) (oi:={ dst:=some 121,op:=_,type:=_,pos:=_,after:=_,guard:=_ }) (v:=_) rfl (by kernel_rfl) (by kernel_rfl) (by kernel_rfl) (fun _ _ _ h=>h) (Or.inr ⟨by rfl,rfl⟩) (by assumption) ?_
       try simp only[Act.put,sX]
       refine wpAnyH_take (i:=24) (oi:={ dst:=some 122,op:=_,type:=_,pos:=_,after:=_,guard:=_ }) (v:=_) rfl (by kernel_rfl) (by kernel_rfl) (by kernel_rfl) (fun _ _ _ h=>h) (Or.inr ⟨by rfl,rfl⟩) (by assumption) ?_
       try simp only[Act.put,sX]
       refine wpAnyH_take (i:=25) (oi:={ dst:=some 123,op:=_,type:=_,pos:=_,after:=_,guard:=_ }) (v:=_) rfl (by kernel_rfl) (by kernel_rfl) (by kernel_rfl) (fun _ _ _ h=>h) (Or.inr ⟨by rfl,rfl⟩) (by assumption) ?_
       try simp only[Act.put,sX]
       refine wpAnyH_take (i:=26) (oi:={ dst:=some 124,op:=_,type:=_,pos:=_,after:=_,guard:=_ }) (v:=_) rfl (by kernel_rfl) (by kernel_rfl) (by kernel_rfl) (fun _ _ _ h=>h) (Or.inr ⟨by rfl,rfl⟩) (by assumption) ?_
       try simp only[Act.put,sX]
       refine wpAnyH_take (i:=27) (oi:={ dst:=some 125,op:=_,type:=_,pos:=_,after:=_,guard:=_ }) (v:=_) rfl (by kernel_rfl) (by kernel_rfl) (by kernel_rfl) (fun _ _ _ h=>h) (Or.inr ⟨by rfl,rfl⟩) (by assumption) ?_
       try simp only[Act.put,sX]
       refine wpAnyH_take (i:=28) (oi:={ dst:=some 126,op:=_,type:=_,pos:=_,after:=_,guard:=_ }) (v:=_) rfl (by kernel_rfl) (by kernel_rfl) (by kernel_rfl) (fun _ _ _ h=>h) (Or.inr ⟨by rfl,rfl⟩) (by assumption) ?_
       try simp only[Act.put,sX]
       refine wpAnyH_take (i:=29) (oi:={ dst:=some 127,op:=_,type:=_,pos:=_,after:=_,guard:=_ }) (v:=_) rfl (by kernel_rfl) (by kernel_rfl) (by kernel_rfl) (fun _ _ _ h=>h) (Or.inr ⟨by rfl,rfl⟩) (by assumption) ?_
       try simp only[Act.put,sX]
       refine wpAnyH_take (i:=30) (oi:={ dst:=some 128,op:=_,type:=_,pos:=_,after:=_,guard:=_ }) (v:=_) rfl (by kernel_rfl) (by kernel_rfl) (by kernel_rfl) (fun _ _ _ h=>h) (Or.inr ⟨by rfl,rfl⟩) (by assumption) ?_
       try simp only[Act.put,sX]
       refine wpAnyH_take (i:=31) (oi:={ dst:=some 129,op:=_,type:=_,pos:=_,after:=_,guard:=_ }) (v:=?_) rfl (by kernel_rfl) (by kernel_rfl) (by kernel_rfl) (fun _ _ _ h=>h) (Or.inl ⟨by rfl,?_⟩) (by assumption) ?_
       rotate_left
       ·intro w hSw;(try dsimp only at hSw);go_simp;(try with_reducible rfl)
       try simp only[Act.put,sX]
       refine wpAnyH_done (by kernel_rfl) ?_ _;go_wp2_with fail;have hO:=HJ.out;simp at hO;subst hO;go_ret;exact⟨rfl,f.trans (((Fr.refl [] wr).drew).trans f3)⟩
      cases bX
      all_goals
       go_wp2_with fail
       go_region_held3 (fun w'=>w'.cell? ⟨T,7,none⟩=some (.slice (some ⟨g,og,none⟩) arms.length cc7)∧w'.cell? ⟨T+1,7,none⟩=some (.slice (some ⟨g',og',none⟩) arms.length cc7')∧(w'.cell? ⟨g,og+i * 15,none⟩=some (vI k3)∧w'.cell? ⟨g,og+i * 15+1,none⟩=some (vI a3)∧w'.cell? ⟨g,og+i * 15+2,none⟩=some (vS nm3)∧w'.cell? ⟨g,og+i * 15+3,none⟩=some (vI n3)∧w'.cell? ⟨g,og+i * 15+4,none⟩=some (vS s3)∧w'.cell? ⟨g,og+i * 15+5,none⟩=some (.slice A53 ls3.length cc53)∧w'.cell? ⟨g,og+i * 15+6,none⟩=some (.slice A63 args3.length cc63)∧w'.cell? ⟨g,og+i * 15+7,none⟩=some (vI k2)∧w'.cell? ⟨g,og+i * 15+8,none⟩=some (vI a2)∧w'.cell? ⟨g,og+i * 15+9,none⟩=some (vS nm2)∧w'.cell? ⟨g,og+i * 15+10,none⟩=some (vI n2)∧w'.cell? ⟨g,og+i * 15+11,none⟩=some (vS s2)∧w'.cell? ⟨g,og+i * 15+12,none⟩=some (.slice A52 ls2.length cc52)∧w'.cell? ⟨g,og+i * 15+13,none⟩=some (.slice A62 args2.length cc62)∧w'.cell? ⟨g,og+i * 15+14,none⟩=some (.slice A72 arms2.length cc72))∧(w'.cell? ⟨g',og'+i * 15,none⟩=some (vI k3')∧w'.cell? ⟨g',og'+i * 15+1,none⟩=some (vI a3')∧w'.cell? ⟨g',og'+i * 15+2,none⟩=some (vS nm3')∧w'.cell? ⟨g',og'+i * 15+3,none⟩=some (vI n3')∧w'.cell? ⟨g',og'+i * 15+4,none⟩=some (vS s3')∧w'.cell? ⟨g',og'+i * 15+5,none⟩=some (.slice A53' ls3'.length cc53')∧w'.cell? ⟨g',og'+i * 15+6,none⟩=some (.slice A63' args3'.length cc63')∧w'.cell? ⟨g',og'+i * 15+7,none⟩=some (vI k2')∧w'.cell? ⟨g',og'+i * 15+8,none⟩=some (vI a2')∧w'.cell? ⟨g',og'+i * 15+9,none⟩=some (vS nm2')∧w'.cell? ⟨g',og'+i * 15+10,none⟩=some (vI n2')∧w'.cell? ⟨g',og'+i * 15+11,none⟩=some (vS s2')∧w'.cell? ⟨g',og'+i * 15+12,none⟩=some (.slice A52' ls2'.length cc52')∧w'.cell? ⟨g',og'+i * 15+13,none⟩=some (.slice A62' args2'.length cc62')∧w'.cell? ⟨g',og'+i * 15+14,none⟩=some (.slice A72' arms2'.length cc72'))) (first|go_keep|exact⟨t6,t6',⟨x0,x1,x2,x3,x4,x5,x6,x7,x8,x9,x10,x11,x12,x13,x14⟩,⟨y0,y1,y2,y3,y4,y5,y6,y7,y8,y9,y10,y11,y12,y13,y14⟩⟩) ((first|((with_reducible refine(cP _ ((Fr.refl [] wr).drew)).out.mono ?_);rintro e w3 ⟨rfl,f3⟩;have t6:=Ae ((((Fr.refl [] wr).drew).trans f3).keep q3 nE) 7;have t6':=Ae ((((Fr.refl [] wr).drew).trans f3).keep q4 nE) 7;obtain⟨x0,x1,x2,x3,x4,x5,x6,x7,x8,x9,x10,x11,x12,x13,x14⟩:=Fh hg (f.trans (((Fr.refl [] wr).drew).trans f3)) HC.out;obtain⟨y0,y1,y2,y3,y4,y5,y6,y7,y8,y9,y10,y11,y12,y13,y14⟩:=Fh hg' (f.trans (((Fr.refl [] wr).drew).trans f3)) HC'.out)| ((with_reducible refine(cX _ (((Fr.refl [] wr).drew).trans f3)).out.mono ?_);rintro e w4 ⟨rfl,f4⟩;have t6:=Ae (((((Fr.refl [] wr).drew).trans f3).trans f4).keep q3 nE) 7;have t6':=Ae (((((Fr.refl [] wr).drew).trans f3).trans f4).keep q4 nE) 7;obtain⟨x0,x1,x2,x3,x4,x5,x6,x7,x8,x9,x10,x11,x12,x13,x14⟩:=Fh hg (f.trans ((((Fr.refl [] wr).drew).trans f3).trans f4)) HC.out;obtain⟨y0,y1,y2,y3,y4,y5,y6,y7,y8,y9,y10,y11,y12,y13,y14⟩:=Fh hg' (f.trans ((((Fr.refl [] wr).drew).trans f3).trans f4)) HC'.out)))
       go_wp2_with fail
      ·have hO:=HJ.out;simp at hO;subst hO;go_ret;exact⟨rfl,f.trans ((((Fr.refl [] wr).drew).trans f3).trans f4)⟩
      ·go_roundw
       case rel=>exact⟨i+1,by simp,by omega,fr.trans ((((Fr.refl [] wr).drew).trans f3).trans f4),Hz (by have:=HJ.out;simpa using this)⟩
       case measure=>simp[intOf];omega
     ·have ei:i=arms.length:=by omega
      subst ei;have hO:=HI.out;rw[eqAs_end (Nr' _)] at hO;subst hO;go_wp2_with fail;go_ret;exact⟨rfl,f⟩
theorem Oi:∀ N,SQE N
 | 0=>by intro _ _ _ _ _ _ _ _ _ _ _ _ _ _ _ _ _ _ _ _ _ _ _ _ _ _ _ _ _ _ _ _ h;exact absurd h (Nat.not_lt_zero _)
 | N+1=>eqe_step N (Oi N)
end
end Go.Proofs.YtabhpdhajajoiaaGreatDoor
