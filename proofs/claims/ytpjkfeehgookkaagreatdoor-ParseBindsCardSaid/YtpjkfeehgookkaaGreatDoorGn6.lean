/- A part of the proof: Ls, Lt, Lu, L6. -/
import Derived.BigQuiet
import Derived.Deep.QuietTactic
import Derived.Test.YtpjkfeehgookkaaGreatDoorGn3
import Derived.Test.YtpjkfeehgookkaaGreatDoorGn5
namespace Go.Proofs.YtpjkfeehgookkaaGreatDoor
open Go.RowKit
open _root_.Go.Proofs.Tryz
set_option linter.all false
set_option maxHeartbeats 16000000
set_option maxRecDepth 100000
open List renaming length_cons→Lc',getElem?_eq_getElem→Lg',cons_append→Lp',length_nil→Ln',append_assoc→Ls'
open Nat renaming le_refl→Nr'
section
open Go.RowKit Go.Shelf
attribute [local go_sem] Oper.semAt_some
def D2(k:Nat):LB:=([32]:LB).intercalate (Ay.drop k)
theorem Ok:D2 0=J2:=by decide
theorem Oj:∀ k:Fin 19,Lib.indexByte (D2 k.val) 32=((Ay.getD k.val []).length:Nat)∧(D2 k.val).take (Ay.getD k.val []).length=Ay.getD k.val []∧(D2 k.val).drop ((Ay.getD k.val []).length+1)=D2 (k.val+1)∧(Ay.getD k.val []).length+1≤(D2 k.val).length∧1≤(Ay.getD k.val []).length:=by decide +kernel
theorem J3:Lib.indexByte (D2 19) 32 = -1∧D2 19=Ay.getD 19 []:=by decide +kernel
theorem Qo:∀ k:Nat,k≤19→(D2 k).length≤100:=by
 have h:∀ k:Fin 20,(D2 k.val).length≤100:=by decide +kernel
 exact fun k hk=>h ⟨k,by omega⟩
def Fk(l:LB):Value:=vS l
theorem J0{W:World}{b:Nat}{x:Value}{T:TypeId}{fr:Nat×Nat}(h:W.heap[b]?=some (.cells #[x] T fr))(v:Value):(W.setCell ⟨b,0,none⟩ v).heap[b]?=some (.cells #[v] T fr):=by
 simp[World.setCell,Array.getElem?_modify,h]
def O3(b:Nat)(w:World):Nat:=match w.cell? ⟨b,0,none⟩with
 | some (.string s)=>s.size
 | _=>0
theorem S0(n:Nat)(hn:1≤n)(b B:Nat)(hB:b+3≤B)(w:World)
  (hs:w.heap[b]?=some (.cells #[Fk J2] 9 (0,0))) (hsep:w.heap[b+1]?=some (.cells #[Fk [32]] 9 (0,0))) (hsv:w.heap[b+2]?=some (.cells #[vI 0] 3 (0,0))):
  Ov Fence.wide n prog 130 #[.pointer (some ⟨b+1,0,none⟩),.pointer (some ⟨b,0,none⟩),.pointer (some ⟨b+2,0,none⟩)] (fun x:LB=>#[Fk x]) b B (fun xs=>xs=Ay) (fun pre=>pre <+: Ay) 20 w:=by
 intro l J Jx W hW hJ hJx hY h0;refine callsIn_of_wp func130 rfl trivial ?_ rfl;simp only[ntmps130,List.size_toArray,Lc',Ln',Nat.reduceAdd,Nat.reduceSub,Array.replicate_succ,Array.replicate_zero,List.push_toArray,List.append_toArray,List.nil_append,Lp'];have cs:W.cell? ⟨b,0,none⟩=some (Fk J2):=by rw[Af ((hW.block b (by omega)).trans hs)];rfl
 have cp:W.cell? ⟨b+1,0,none⟩=some (Fk [32]):=by rw[Af ((hW.block (b+1) (by omega)).trans hsep)];rfl
 have cv:W.cell? ⟨b+2,0,none⟩=some (vI 0):=by rw[Af ((hW.block (b+2) (by omega)).trans hsv)];rfl
 have fz:W.frozen? ⟨b,0,none⟩=false:=Ap ((hW.block b (by omega)).trans hs) 0;unfold Fk at cp
 gi_wp2
 gi_loopw [] (fun wr=>∃ k:Nat,k≤19∧wr.heap[b]?=some (.cells #[Fk (D2 k)] 9 (0,0))∧wr.heap[b+1]?=some (.cells #[Fk [32]] 9 (0,0))∧wr.heap[b+2]?=some (.cells #[vI 0] 3 (0,0))∧J (Ay.take k) wr) (fun wr=>O3 b wr)
 case atStart=>exact⟨0,by omega,by rw[Ok];exact(hW.block b (by omega)).trans hs,(hW.block (b+1) (by omega)).trans hsep,(hW.block (b+2) (by omega)).trans hsv,h0⟩
 case round =>
  obtain⟨k,hk,hb0,hb1,hb2,hJk⟩:=hrel;have cs':wr.cell? ⟨b,0,none⟩=some (Fk (D2 k)):=Af hb0 0;have fz':wr.frozen? ⟨b,0,none⟩=false:=Ap hb0 0;have cp':wr.cell? ⟨b+1,0,none⟩=some (.string ⟨#[32]⟩):=Af hb1 0;have cv':wr.cell? ⟨b+2,0,none⟩=some (vI 0):=Af hb2 0;clear cs cp cv fz;by_cases hlt:k<19
  ·obtain⟨i1,i2,i3,i4,i5⟩:=Oj ⟨k,hlt⟩;simp only at i1 i2 i3 i4 i5;have hlen:(Ay.take k).length=k:=by rw[List.length_take];exact Nat.min_eq_left (by show k≤20;omega)
   have htk:Ay.take k++[Ay.getD k []]=Ay.take (k+1):=by
    rw[List.take_add_one,List.getD_eq_getElem?_getD,Lg' (by show k<20;omega)];rfl
   obtain⟨m,hm⟩:∃ m,(Ay.getD k []).length=m:=⟨_,rfl⟩
   obtain⟨R,hRR⟩:∃ R:ByteArray,R=⟨(D2 k).toArray⟩:=⟨_,rfl⟩
   have hRs:R.size=(D2 k).length:=by rw[hRR];rfl
   have hX:Fk (Ay.getD k [])= .string (R.extract 0 m):=by
    rw[Ji,hRR,← hm];show Fk _ = .string ⟨(List.take _ (D2 k)).toArray⟩;rw[i2];rfl
   have hX2:Value.string (R.extract (m+1) R.size)=Fk (D2 (k+1)):=by
    rw[← i3,hm]
    have e:R.extract (m+1) R.size=⟨((D2 k).drop (m+1)).toArray⟩:=by
     apply ByteArray.ext;apply Array.ext';have:=Lib.extract_to_end R (m+1);rw[this,hRR]
    rw[e];rfl
   have hY1:=hY (Ay.take k) (Ay.getD k []) wr hJk (by omega);rw[hX,htk] at hY1;obtain⟨fn,tmps,assign,body,hy,hR⟩:=hY1;have hix:=Tryz.strings_Index_one R 32 wr;have i1':Lib.indexByte R.data.toList 32=(m:Nat):=by rw[hRR,← hm];exact i1
   rw[i1'] at hix;have cs2:wr.cell? ⟨b,0,none⟩=some (.string R):=by rw[cs',hRR];rfl
   have hmR:m+1≤R.size:=by omega
   have hRb:R.size≤100:=by rw[hRs];exact Qo k hk
   have q1:0≤(m:Int)∧(m:Int)≤(R.size:Int):=by omega
   have q2:0≤(m:Int)+1∧(m:Int)+1≤(R.size:Int):=by omega
   have HX2:=Hz hX2;have HL:=Hz (show(D2 (k+1)).length<R.size by rw[← i3,List.length_drop];omega);clear i1 i2 i3 i4 i5 i1' hX hX2 htk hm hRR hRs cs' hY hlen
   gi_wp2_with (refine⟨trivial,?_⟩;gi_at_call 94;refine(callsIn_wide.2 hix).mono ?_;rintro e x1 ⟨rfl,rfl⟩)
   refine hR.mono ?_;rintro e V (⟨rfl,hJ',hk'⟩| ⟨rfl,hJx'⟩)
   ·have vb0:=(hk'.block b (by omega)).trans hb0;have vb1:=(hk'.block (b+1) (by omega)).trans hb1;have vb2:=(hk'.block (b+2) (by omega)).trans hb2;have d0:V.cell? ⟨b,0,none⟩=some (.string R):=by rw[Af vb0,← cs2,Af hb0]
    have d1:V.cell? ⟨b+1,0,none⟩=some (.string ⟨#[32]⟩):=Af vb1 0;have d2:V.frozen? ⟨b,0,none⟩=false:=Ap vb0 0;have hl0:O3 b x1=R.size:=by unfold O3;rw[cs2]
    clear cs2 fz' cp' cv' hJk
    gi_wp2
    rw[HX2.out];refine⟨⟨k+1,by omega,J0 vb0 _,(Bb (by omega)).trans vb1,(Bb (by omega)).trans vb2,hJ.2 _ _ _ hJ'⟩,?_⟩;rw[hl0];unfold O3;rw[Af (J0 vb0 _)];exact HL.out
   ·gi_wp2
    refine bodyPost_ret (results_none rfl _ _ _) rfl ?_;exact⟨⟨_,rfl⟩,.inr ⟨Ay.take (k+1),List.take_prefix _ _,hJx'⟩⟩
  ·have hk9:k=19:=by omega
   subst hk9
   obtain⟨R,hRR⟩:∃ R:ByteArray,R=⟨(D2 19).toArray⟩:=⟨_,rfl⟩
   have hX:Fk (Ay.getD 19 [])= .string R:=by rw[← J3.2,hRR];rfl
   have hY1:=hY (Ay.take 19) (Ay.getD 19 []) wr hJk (by decide);rw[hX,show Ay.take 19++[Ay.getD 19 []]=Ay from by decide] at hY1;obtain⟨fn,tmps,assign,body,hy,hR⟩:=hY1;have hix:=Tryz.strings_Index_one R 32 wr;have i1':Lib.indexByte R.data.toList 32 = -1:=by rw[hRR];exact J3.1
   rw[i1'] at hix;have cs2:wr.cell? ⟨b,0,none⟩=some (.string R):=by rw[cs',hRR];rfl
   clear i1' hX hRR cs' hY
   gi_wp2_with (refine⟨trivial,?_⟩;gi_at_call 94;refine(callsIn_wide.2 hix).mono ?_;rintro e x1 ⟨rfl,rfl⟩)
   refine hR.mono ?_;rintro e V (⟨rfl,hJ',hk'⟩| ⟨rfl,hJx'⟩)
   ·gi_wp2
    go_end0
    exact⟨⟨_,rfl⟩,.inl ⟨Ay,rfl,hJ'⟩⟩
   ·gi_wp2
    go_end0
    exact⟨⟨_,rfl⟩,.inr ⟨Ay,List.prefix_refl _,hJx'⟩⟩
end
section
open Go.RowKit Go.Shelf
attribute [local go_sem] Oper.semAt_some
def Hk(p s:LB):Bool:=p.isPrefixOf s
theorem Iv(s p:ByteArray)(_hs:s.size≤1000000)(w:World):
  Calls prog 108 #[.string s,.string p] w fun e w'=>e = .returned (.bool (Hk p.data.toList s.data.toList))∧w=w':=by
 have hi:=pfx_iff s p.data.toList;rw[Ar] at hi;have hb:Hk p.data.toList s.data.toList=true↔p.size≤s.size∧((s.extract 0 p.size).toList==p.data.toList)=true:=by unfold Hk;rw[List.isPrefixOf_iff_prefix];exact hi
 by_cases hl:p.size≤s.size
 ·have l1:decide ((p.size:Int)≤(s.size:Int))=true:=decide_eq_true (by omega);have l2:(p.size:Int)≤(s.size:Int):=by omega
  have he:Hk p.data.toList s.data.toList=((s.extract 0 p.size).toList==p.toList):=by
   rw[Bool.eq_iff_iff,hb,ByteArray.toList_eq p];exact⟨fun h=>h.2,fun h=>⟨hl,h⟩⟩
  rw[he];clear hb hi he;go_enter func108,ntmps108;go_wp2_with fail;go_ret;exact⟨rfl,rfl⟩
 ·have l1:decide ((p.size:Int)≤(s.size:Int))=false:=decide_eq_false (by omega);have l2:¬ (p.size:Int)≤(s.size:Int):=by omega
  have he:Hk p.data.toList s.data.toList=false:=by rw[Bool.eq_false_iff];intro h;exact hl (hb.1 h).1
  rw[he];clear hb hi he;go_enter func108,ntmps108;go_wp2_with fail;go_ret;exact⟨rfl,rfl⟩
theorem J7(s p:ByteArray)(hs:s.size≤1000000)(w:World):
  Calls prog 81 #[.string s,.string p] w fun e w'=>e = .returned (.bool (Hk p.data.toList s.data.toList))∧w=w':=by
 have c:=Hz (Iv s p hs w);go_enter func81,ntmps81;go_wp2_with fail;refine c.out.mono ?_;rintro e x1 ⟨rfl,rfl⟩;go_wp2_with fail;go_ret;exact⟨rfl,rfl⟩
def Sn(w:World)(s sep:ByteArray):World:=((w.alloc (.cells #[.string s] 9)).alloc (.cells #[.string sep] 9)).alloc (.cells #[vI 0] 3)
theorem Lj(s sep:ByteArray)(w:World):
  Calls prog 107 #[.string s,.string sep,vI 0] w fun e w'=>e = .returned (.func (.func 130) #[] #[.pointer (some ⟨w.heap.size+1,0,none⟩),.pointer (some ⟨w.heap.size,0,none⟩),.pointer (some ⟨w.heap.size+2,0,none⟩)])∧w'=Sn w s sep:=by
 go_enter func107,ntmps107;go_wp2_with fail;go_ret;exact⟨rfl,rfl⟩
theorem Kt(s sep:ByteArray)(w:World):
  Calls prog 80 #[.string s,.string sep] w fun e w'=>e = .returned (.func (.func 130) #[] #[.pointer (some ⟨w.heap.size+1,0,none⟩),.pointer (some ⟨w.heap.size,0,none⟩),.pointer (some ⟨w.heap.size+2,0,none⟩)])∧w'=Sn w s sep:=by
 go_enter func80,ntmps80;go_wp2_with fail;refine(Lj s sep w).mono ?_;rintro e x1 ⟨rfl,rfl⟩;go_wp2_with fail;go_ret;exact⟨rfl,rfl⟩
theorem He{A B:World}{row:Option Nat}{k:Nat}{cs:Array Value}{T:TypeId}{fr:Nat×Nat}(h:A.heap[k]?=some (.cells cs T fr))(hg:A.grownBy B row)(hr:∀ r,row=some r→∃ o:Obj,A.heap[r]?=some o∧o.isCells=false):B.heap[k]?=some (.cells cs T fr):=by
 refine(hg.block k (Array.getElem?_eq_some_iff.1 h).1 ?_).trans h;intro e;obtain⟨o,ho,hc⟩:=hr k e.symm;rw[h] at ho;cases ho;cases hc
theorem Pq{p:LB→Bool}{l pre:List LB}{x:LB}(hp:pre++[x] <+: l)(hn:∀ y ∈ pre,p y=false)(hx:p x=true):l.find? p=some x:=by
 obtain⟨r,rfl⟩:=hp;rw[Ls',List.find?_append,List.find?_eq_none.2 (fun y hy=>by simp[hn y hy])];simp[hx]
theorem Pr(w:World)(o1 o2 o3 o4 o5:Obj):let W0:=((((w.alloc o1).alloc o2).alloc o3).alloc o4).alloc o5
  W0.heap[w.heap.size]?=some o1∧W0.heap[w.heap.size+1]?=some o2∧W0.heap[w.heap.size+1+1]?=some o3∧W0.heap[w.heap.size+1+1+1]?=some o4∧W0.heap[w.heap.size+1+1+2]?=some o5∧Below w.heap.size w W0:=by
 have n1:=World.alloc_heap_new w o1;have n2:=World.alloc_heap_new (w.alloc o1) o2;have n3:=World.alloc_heap_new ((w.alloc o1).alloc o2) o3;have n4:=World.alloc_heap_new (((w.alloc o1).alloc o2).alloc o3) o4;have n5:=World.alloc_heap_new ((((w.alloc o1).alloc o2).alloc o3).alloc o4) o5;simp only[World.size_alloc] at n2 n3 n4 n5;have old:∀ (V:World) (o:Obj) (k:Nat),k<V.heap.size→(V.alloc o).heap[k]?=V.heap[k]?:=fun V o k h=>Below.heap_alloc V o k h
 refine⟨?_,?_,?_,?_,n5,?_⟩
 ·rw[old _ _ _ (by simp only[World.size_alloc];omega),old _ _ _ (by simp only[World.size_alloc];omega),old _ _ _ (by simp only[World.size_alloc];omega),old _ _ _ (by simp only[World.size_alloc];omega)];exact n1
 ·rw[old _ _ _ (by simp only[World.size_alloc];omega),old _ _ _ (by simp only[World.size_alloc];omega),old _ _ _ (by simp only[World.size_alloc];omega)];exact n2
 ·rw[old _ _ _ (by simp only[World.size_alloc];omega),old _ _ _ (by simp only[World.size_alloc];omega)];exact n3
 ·rw[old _ _ _ (by simp only[World.size_alloc];omega)];exact n4
 ·exact(((((Below.refl _ w).alloc (Nr' _) _).alloc (by simp only[World.size_alloc];omega) _).alloc (by simp only[World.size_alloc];omega) _).alloc (by simp only[World.size_alloc];omega) _).alloc (by simp only[World.size_alloc];omega) _
def Fz(l:LB):LB:=(Ay.find? (fun x=>Hk x l)).getD []
theorem J1(s:ByteArray)(hs:s.size≤1000000)(w:World):
  Calls prog 49 #[.string s] w fun e w'=>e = .returned (.string ⟨(Fz s.data.toList).toArray⟩)∧Below w.heap.size w w':=by
 refine(callsIn_wide (n:=3)).1 ?_;refine callsIn_of_wp_marks func49 rfl trivial ?_ rfl;simp only[ntmps49,List.size_toArray,Lc',Ln',Nat.reduceAdd,Nat.reduceSub,Array.replicate_succ,Array.replicate_zero,List.push_toArray,List.append_toArray,List.nil_append,Lp']
 gi_wp2_with (refine⟨trivial,?_⟩;gi_at_call 80;refine(callsIn_wide.2 (Kt _ _ _)).mono ?_;rintro e x1 ⟨rfl,rfl⟩)
 generalize hsv:(ByteArray.mk #[45,62,32,58,61,32,38,38,32,124,124,32,40,32,41,32,123,32,125,32,61,32,59,32,44,32,46,32,124,32,43,32,45,32,42,32,47,32,37,32,60,32,33])=sv at *
 obtain⟨W0,hW0⟩:∃ W0,Sn ((w.alloc (.cells #[.string s] 9)).alloc (.cells #[vE] 9)) sv ⟨#[32]⟩=W0:=⟨_,rfl⟩
 rw[hW0];have z0:W0.heap.size=w.heap.size+5:=by rw[← hW0];simp only[Sn,World.size_alloc]
 have hf:=Pr w (.cells #[.string s] 9) (.cells #[vE] 9) (.cells #[.string sv] 9) (.cells #[.string ⟨#[32]⟩] 9) (.cells #[vI 0] 3);simp only at hf;unfold Sn at hW0;rw[hW0] at hf;obtain⟨b0,b1,b2',b3,b4,bw⟩:=hf;have hsv2:sv=⟨J2.toArray⟩:=by rw[← hsv];rfl
 have b2:W0.heap[w.heap.size+1+1]?=some (.cells #[Fk J2] 9 (0,0)):=by rw[b2',hsv2];rfl
 clear hsv hsv2 b2'
 refine Od (F:=Fence.wide) (n:=3) rfl (by decide) (gf:=130) (lb:=#[.pointer (some ⟨w.heap.size+1+1+1,0,none⟩),.pointer (some ⟨w.heap.size+1+1,0,none⟩),.pointer (some ⟨w.heap.size+1+1+2,0,none⟩)]) rfl trivial (enters_of func130 (by kernel_rfl) rfl)
  (encs:=fun x:LB=>#[Fk x]) (S:=fun xs=>xs=Ay) (Sp:=fun pre=>pre <+: Ay) (N:=20) (Bs:=w.heap.size+1+1) (by omega)
  (S0 2 (by decide) (w.heap.size+1+1) W0.heap.size (by omega) W0 b2 b3 b4) (fun _=>rfl)
  (fun pre W=>W.heap[w.heap.size]?=some (.cells #[.string s] 9 (0,0))∧W.heap[w.heap.size+1]?=some (.cells #[vE] 9 (0,0))∧Below w.heap.size w W∧∀ y ∈ pre,Hk y s.data.toList=false)
  (fun pre W=>∃ pre' x,pre=pre'++[x]∧(∀ y ∈ pre',Hk y s.data.toList=false)∧Hk x s.data.toList=true∧W.heap[w.heap.size+1]?=some (.cells #[Fk x] 9 (0,0))∧Below w.heap.size w W)
  (fun pre A B row hs hg hr=>⟨He hs.1 hg (fun r e=>(hr r e).2),He hs.2.1 hg (fun r e=>(hr r e).2),hs.2.2.1.grown hg hs.2.2.1.size (fun k e=>by have:=(hr k e).1;omega),hs.2.2.2⟩)
  (fun pre A v hs=>⟨(Bb (by omega)).trans hs.1,(Bb (by omega)).trans hs.2.1,hs.2.2.1.setCell (p:=⟨w.heap.size+1+1,0,none⟩) (by show w.heap.size≤w.heap.size+1+1;omega) _,hs.2.2.2⟩)
  (fun pre A B row hs hg hr=>by
   obtain⟨pre',x,e,h1,h2,h3,h4⟩:=hs
   exact⟨pre',x,e,h1,h2,He h3 hg (fun r e=>(hr r e).2),h4.grown hg h4.size (fun k e=>by have:=(hr k e).1;omega)⟩)
  (fun pre A v hs=>by
   obtain⟨pre',x,e,h1,h2,h3,h4⟩:=hs
   exact⟨pre',x,e,h1,h2,(Bb (by omega)).trans h3,h4.setCell (p:=⟨w.heap.size+1+1,0,none⟩) (by show w.heap.size≤w.heap.size+1+1;omega) _⟩)
  ⟨b0,b1,bw,fun _ h=>by cases h⟩
  (fun x=>{ tmps:=#[.string s,.pointer (some ⟨w.heap.size,0,none⟩),.pointer (some ⟨w.heap.size+1,0,none⟩),Fk x,.func (.func 130) #[] #[.pointer (some ⟨w.heap.size+1+1+1,0,none⟩),.pointer (some ⟨w.heap.size+1+1,0,none⟩),.pointer (some ⟨w.heap.size+1+1+2,0,none⟩)],Fk x,undef,undef,undef,undef],defers:=[] }) ?assign ?body ?done ?stop
 case assign =>
  intro l x W K hK
  gi_wp2
  exact hK
 case body =>
  rintro l pre x W ⟨h0,h1,h2,h3⟩ _;have c0:W.cell? ⟨w.heap.size,0,none⟩=some (.string s):=Af h0 0;have f1:W.frozen? ⟨w.heap.size+1,0,none⟩=false:=Ap h1 0;have d1:W.cell? ⟨w.heap.size+1,0,none⟩=some (vE):=Af h1 0;have hp:=J7 s ⟨x.toArray⟩ hs W;have ex:Hk (ByteArray.mk x.toArray).data.toList s.data.toList=Hk x s.data.toList:=rfl;rw[ex] at hp;unfold Fk
  cases hx:Hk x s.data.toList with
  | true =>
   rw[hx] at hp;clear ex
   gi_wp2_with (refine⟨trivial,?_⟩;gi_at_call 81;refine(CallsIn.inRound l (callsIn_wide.2 hp)).mono ?_;rintro e x1 ⟨rfl,rfl⟩)
   exact⟨KeepsOthers.setCell _ _ _,pre,x,⟨rfl,rfl⟩,h3,hx,J0 h1 _,h2.setCell (p:=⟨w.heap.size+1,0,none⟩) (by show w.heap.size≤w.heap.size+1;omega) _⟩
  | false =>
   rw[hx] at hp;clear ex
   gi_wp2_with (refine⟨trivial,?_⟩;gi_at_call 81;refine(CallsIn.inRound l (callsIn_wide.2 hp)).mono ?_;rintro e x1 ⟨rfl,rfl⟩)
   refine⟨KeepsOthers.refl _,Below.refl _ _,fun y hy=>?_⟩;rcases hy with hy|rfl
   ·exact h3 y hy
   ·exact hx
 case done =>
  rintro D xs W hD rfl ⟨h0,h1,h2,h3⟩ hK
  have hr:Fz s.data.toList=[]:=by
   unfold Fz;rw[List.find?_eq_none.2 (fun y hy=>by simp[h3 y hy])];rfl
  have f1:W.frozen? ⟨w.heap.size+1,0,none⟩=false:=Ap h1 0;have d1:W.cell? ⟨w.heap.size+1,0,none⟩=some (vE):=Af h1 0
  gi_wp2
  have hK':=(KeepsOthers.setCell W ⟨w.heap.size+1,0,none⟩ (vE)).same D _ hK rfl;refine⟨by simp,.inl ⟨_,_,rfl,run_takeDeferred hK',?_⟩⟩;have hc5:=cell_kept (World.cell?_setCell_same' W ⟨w.heap.size+1,0,none⟩ (vE) (by rw[d1];rfl)) (grownBy_putObj' _ D (.deferred none)) (fun r e=>by cases e;exact⟨_,hK',rfl⟩);refine⟨vE,?_,by rw[hr],?_⟩
  ·simp[results,Tryz.f49,go_sem,hc5]
  ·exact(h2.setCell (p:=⟨w.heap.size+1,0,none⟩) (by show w.heap.size≤w.heap.size+1;omega) _).grown (grownBy_putObj' _ D (.deferred none)) (h2.setCell (p:=⟨w.heap.size+1,0,none⟩) (by show w.heap.size≤w.heap.size+1;omega) (vE)).size (fun k e=>by cases e;omega)
 case stop =>
  rintro D pre W hD hp ⟨pre',x,rfl,h1,h2,h3,h4⟩ hK
  have hr:Fz s.data.toList=x:=by
   unfold Fz;rw[Pq hp h1 h2];rfl
  have d1:W.cell? ⟨w.heap.size+1,0,none⟩=some (Fk x):=Af h3 0
  gi_wp2
  refine⟨by simp,.inl ⟨_,_,rfl,run_takeDeferred hK,?_⟩⟩;have hc5:=cell_kept d1 (grownBy_putObj' _ D (.deferred none)) (fun r e=>by cases e;exact⟨_,hK,rfl⟩);refine⟨Fk x,?_,by rw[hr];rfl,?_⟩
  ·simp[results,Tryz.f49,go_sem,hc5]
  ·exact h4.grown (grownBy_putObj' _ D (.deferred none)) h4.size (fun k e=>by cases e;omega)
end
def C8(k:Int)(a0:Nat)(t:LB)(n:Int):Value:=.agg #[vI k,vI a0,vS t,vI n]
def G8(r:Except Int (Int×List UInt8×Int×Nat))(a0 b0:Nat)(e:Ending):Prop:=match r with
 | .ok (k,t,n,m)=>e = .returned (.tuple #[C8 k a0 t n,vI ((b0+m:Nat):Int),vI 0])
 | .error er=>∃ (k:Int) (a:Nat) (t:LB) (n v2:Int),e = .returned (.tuple #[C8 k a t n,vI v2,vI er])
theorem D7{er:Int}{a0 b0:Nat}{k:Int}{a:Nat}{t:LB}{n v2:Int}{e:Ending}(h:e = .returned (.tuple #[C8 k a t n,vI v2,vI er])):G8 (.error er) a0 b0 e:=⟨k,a,t,n,v2,h⟩
theorem C3(s:ByteArray)(h:0<s.size):s.data.toList=s[0]::s.data.toList.drop 1:=by
 have:=Cb s 0 h;simpa using this
theorem Am{x:World}{B:Nat}{T:TypeId}{a b c d:Value}(h:x.heap[B]?=some (.cells #[a,b,c,d] T (0,0))):
  x.cell? ⟨B,0,none⟩=some a∧x.cell? ⟨B,1,none⟩=some b∧x.cell? ⟨B,2,none⟩=some c∧x.cell? ⟨B,3,none⟩=some d∧x.frozen? ⟨B,0,none⟩=false∧x.frozen? ⟨B,1,none⟩=false∧x.frozen? ⟨B,2,none⟩=false∧x.frozen? ⟨B,3,none⟩=false :=
 ⟨Af h 0,Af h 1,Af h 2,Af h 3,Ap h 0,Ap h 1,Ap h 2,Ap h 3⟩
theorem Gc{x:World}{B:Nat}{T:TypeId}{a b c d:Value}(h:x.heap[B]?=some (.cells #[a,b,c,d] T (0,0)))(p q r t:Value):
  ((((x.setCell ⟨B,0,none⟩ p).setCell ⟨B,1,none⟩ q).setCell ⟨B,2,none⟩ r).setCell ⟨B,3,none⟩ t).heap[B]?=some (.cells #[p,q,r,t] T (0,0)):=by
 simp[World.setCell,Array.getElem?_modify,h]
theorem Fr.store4{w x:World}{B:Nat}(h:Fr [] w x)(hB:w.heap.size=B)(p q r t:Value):Fr [] w ((((x.setCell ⟨B,0,none⟩ p).setCell ⟨B,1,none⟩ q).setCell ⟨B,2,none⟩ r).setCell ⟨B,3,none⟩ t):=by
 refine Fr.of_below ((((h.below0.setCell (p:=⟨B,0,none⟩) ?_ p).setCell (p:=⟨B,1,none⟩) ?_ q).setCell (p:=⟨B,2,none⟩) ?_ r).setCell (p:=⟨B,3,none⟩) ?_ t)
 all_goals(show w.heap.size≤B;omega)
theorem P5(s:ByteArray)(hs:s.size≤1000000)(hp:0<s.size)(h1:Ds s[0]=true)(w:World)(hE:E2 w):
  Calls prog 30 #[.string s] w fun e w'=>G8 (tok s.data.toList) 0 0 e∧Fr [] w w':=by
 have ht:tok s.data.toList = .ok (if Dd (Bn s.data.toList)=true then 6 else 1,Bn s.data.toList,0,(Bn s.data.toList).length):=by
  rw[C3 s hp,tok,if_pos h1]
 rw[ht];have hsm:=B2 s[0];rw[h1] at hsm;have wv:wrap32 ((s[0].toNat:Nat):Int)=((s[0].toNat:Nat):Int):=by have:=s[0].toNat_lt;unfold wrap32;omega
 have hrl:=Fi s.data.toList;rw[Ar] at hrl;have cw:=fun w hE=>Hz (Ni ⟨(Bn s.data.toList).toArray⟩ (by show(Bn s.data.toList).length≤1000000;omega) w hE)
 have cr:=fun w=>Hz (I5 s (by omega) w)
 clear ht h1
 generalize Bn s.data.toList=X at *
 cases hw:Dd X with
 | true =>
  have hw2:Dd (ByteArray.mk X.toArray).data.toList=true:=hw;rw[if_pos rfl];go_enter func30,ntmps30;go_wp2_with fail;have f0:Fr [] w (w.alloc (.cells #[vI 0,vI 0,vE,vI 0] 46)):=(Fr.refl [] w).alloc _;have h0:(w.alloc (.cells #[vI 0,vI 0,vE,vI 0] 46)).heap[w.heap.size]?=some (.cells #[vI 0,vI 0,vE,vI 0] 46 (0,0)):=Array.getElem?_push_size
  generalize (w.alloc (.cells #[vI 0,vI 0,vE,vI 0] 46))=w1 at *
  have hBw:w.heap.size≤w.heap.size:=Nr' _;generalize hB:w.heap.size=B at h0 hBw ⊢;refine(Bm _ _).mono ?_;rintro e x1 ⟨rfl,rfl⟩;go_wp2_with fail;refine(cr _).out.mono ?_;rintro e x1 ⟨rfl,f1⟩;go_wp2_with fail;refine(cw _ ((hE.fr f0).fr f1)).out.mono ?_;rintro e x2 ⟨rfl,f2⟩;rw[hw2];have g:=f2.keep (f1.keep h0 (fun h=>by cases h)) (fun h=>by cases h);obtain⟨c0,c1,c2,c3,z0,z1,z2,z3⟩:=Am g;have ff:=(f0.trans f1).trans f2;have gz:=Gc g (vI 6) (vI 0) (vS X) (vI 0);have fz:=ff.store4 hB (vI 6) (vI 0) (vS X) (vI 0);clear h0 g;go_wp2_with fail;generalize (((x2.setCell ⟨B,0,none⟩ (vI 6)).setCell ⟨B,1,none⟩ (vI 0)).setCell ⟨B,2,none⟩ (vS X)).setCell ⟨B,3,none⟩ (vI 0)=Z at gz fz ⊢;obtain⟨d0,d1,d2,d3,_⟩:=Am gz;refine bodyPost_ret (v:=.tuple #[C8 6 0 X 0,vI ((0+X.length:Nat):Int),vI 0]) ?_ rfl ?_
  ·simp[results,Tryz.f30,go_sem,C8,d0,d1,d2,d3]
  ·exact⟨rfl,fz⟩
 | false =>
  have hw2:Dd (ByteArray.mk X.toArray).data.toList=false:=hw;rw[if_neg Bool.false_ne_true];go_enter func30,ntmps30;go_wp2_with fail;have f0:Fr [] w (w.alloc (.cells #[vI 0,vI 0,vE,vI 0] 46)):=(Fr.refl [] w).alloc _;have h0:(w.alloc (.cells #[vI 0,vI 0,vE,vI 0] 46)).heap[w.heap.size]?=some (.cells #[vI 0,vI 0,vE,vI 0] 46 (0,0)):=Array.getElem?_push_size
  generalize (w.alloc (.cells #[vI 0,vI 0,vE,vI 0] 46))=w1 at *
  have hBw:w.heap.size≤w.heap.size:=Nr' _;generalize hB:w.heap.size=B at h0 hBw ⊢;refine(Bm _ _).mono ?_;rintro e x1 ⟨rfl,rfl⟩;go_wp2_with fail;refine(cr _).out.mono ?_;rintro e x1 ⟨rfl,f1⟩;go_wp2_with fail;refine(cw _ ((hE.fr f0).fr f1)).out.mono ?_;rintro e x2 ⟨rfl,f2⟩;rw[hw2];have g:=f2.keep (f1.keep h0 (fun h=>by cases h)) (fun h=>by cases h);obtain⟨c0,c1,c2,c3,z0,z1,z2,z3⟩:=Am g;have ff:=(f0.trans f1).trans f2;have gz:=Gc g (vI 1) (vI 0) (vS X) (vI 0);have fz:=ff.store4 hB (vI 1) (vI 0) (vS X) (vI 0);clear h0 g;go_wp2_with fail;generalize (((x2.setCell ⟨B,0,none⟩ (vI 1)).setCell ⟨B,1,none⟩ (vI 0)).setCell ⟨B,2,none⟩ (vS X)).setCell ⟨B,3,none⟩ (vI 0)=Z at gz fz ⊢;obtain⟨d0,d1,d2,d3,_⟩:=Am gz;refine bodyPost_ret (v:=.tuple #[C8 1 0 X 0,vI ((0+X.length:Nat):Int),vI 0]) ?_ rfl ?_
  ·simp[results,Tryz.f30,go_sem,C8,d0,d1,d2,d3]
  ·exact⟨rfl,fz⟩
theorem P1(s:ByteArray)(hs:s.size≤1000000)(hp:0<s.size)(h1:Ds s[0]=false)(h2:Cj s[0]=true)(w:World)(_hE:E2 w):
  Calls prog 30 #[.string s] w fun e w'=>G8 (tok s.data.toList) 0 0 e∧Fr [] w w':=by
 have ht:tok s.data.toList = .ok (2,Bn s.data.toList,0,(Bn s.data.toList).length):=by
  rw[C3 s hp,tok,if_neg (by simp[h1]),if_pos h2]
 rw[ht];have hsm:=B2 s[0];have hgr:=Bq s[0];rw[h1] at hsm;rw[h2] at hgr;have wv:wrap32 ((s[0].toNat:Nat):Int)=((s[0].toNat:Nat):Int):=by have:=s[0].toNat_lt;unfold wrap32;omega
 have hrl:=Fi s.data.toList;rw[Ar] at hrl;have cr:=fun w=>Hz (I5 s (by omega) w)
 clear ht h1 h2
 generalize Bn s.data.toList=X at *
 go_enter func30,ntmps30;go_wp2_with fail;have f0:Fr [] w (w.alloc (.cells #[vI 0,vI 0,vE,vI 0] 46)):=(Fr.refl [] w).alloc _;have h0:(w.alloc (.cells #[vI 0,vI 0,vE,vI 0] 46)).heap[w.heap.size]?=some (.cells #[vI 0,vI 0,vE,vI 0] 46 (0,0)):=Array.getElem?_push_size
 generalize (w.alloc (.cells #[vI 0,vI 0,vE,vI 0] 46))=w1 at *
 have hBw:w.heap.size≤w.heap.size:=Nr' _;generalize hB:w.heap.size=B at h0 hBw ⊢;refine(Bm _ _).mono ?_;rintro e x1 ⟨rfl,rfl⟩;go_wp2_with fail;refine(Bl _ _).mono ?_;rintro e x1 ⟨rfl,rfl⟩;go_wp2_with fail;refine(cr _).out.mono ?_;rintro e x1 ⟨rfl,f1⟩;have g:=f1.keep h0 (fun h=>by cases h);obtain⟨c0,c1,c2,c3,z0,z1,z2,z3⟩:=Am g;have ff:=f0.trans f1;have gz:=Gc g (vI 2) (vI 0) (vS X) (vI 0);have fz:=ff.store4 hB (vI 2) (vI 0) (vS X) (vI 0);clear h0 g;go_wp2_with fail;generalize (((x1.setCell ⟨B,0,none⟩ (vI 2)).setCell ⟨B,1,none⟩ (vI 0)).setCell ⟨B,2,none⟩ (vS X)).setCell ⟨B,3,none⟩ (vI 0)=Z at gz fz ⊢;obtain⟨d0,d1,d2,d3,_⟩:=Am gz;refine bodyPost_ret (v:=.tuple #[C8 2 0 X 0,vI ((0+X.length:Nat):Int),vI 0]) ?_ rfl ?_
 ·simp[results,Tryz.f30,go_sem,C8,d0,d1,d2,d3]
 ·exact⟨rfl,fz⟩
theorem one_tag(s:ByteArray)(hs:s.size≤1000000)(hp:0<s.size)(h1:s[0]=35)(hp2:1<s.size)(h2:Cj s[1]=true)(w:World)(_hE:E2 w):
  Calls prog 30 #[.string s] w fun e w'=>G8 (tok s.data.toList) 0 0 e∧Fr [] w w':=by
 have hr:s.data.toList.drop 1=s[1]::s.data.toList.drop 2:=Cb s 1 hp2
 have ht:tok s.data.toList = .ok (3,Bn (s.data.toList.drop 1),0,1+(Bn (s.data.toList.drop 1)).length):=by
  rw[C3 s hp,tok,if_neg (by rw[h1];decide),if_neg (by rw[h1];decide),if_pos ⟨h1,by rw[hr];simpa using h2⟩];rfl
 rw[ht];have hsm:Eo ((s[0].toNat:Nat):Int)=false:=by rw[B2,h1];decide
 have hg0:El ((s[0].toNat:Nat):Int)=false:=by rw[Bq,h1];decide
 have e35:((s[0].toNat:Nat):Int)=35:=by rw[h1];rfl
 have b35:(((s[0].toNat:Nat):Int)==35)=true:=by rw[h1];rfl
 have hgr:=Bq s[1];rw[h2] at hgr;have l1:1<(s.size:Int):=by omega
 have wv:wrap32 ((s[0].toNat:Nat):Int)=((s[0].toNat:Nat):Int):=by have:=s[0].toNat_lt;unfold wrap32;omega
 have wv1:wrap32 ((s[1].toNat:Nat):Int)=((s[1].toNat:Nat):Int):=by have:=s[1].toNat_lt;unfold wrap32;omega
 have hrl:=Fi (s.data.toList.drop 1);rw[Cg] at hrl;have cr:=fun w=>I5 (s.extract 1 s.size) (by rw[show(s.extract 1 s.size).size=s.size-1 by simp];omega) w
 rw[Lib.extract_to_end s 1] at cr;have CR:=fun w=>Hz (cr w)
 clear ht h1 h2 hr cr
 generalize Bn (s.data.toList.drop 1)=X at *
 go_enter func30,ntmps30;go_wp2_with fail;have f0:Fr [] w (w.alloc (.cells #[vI 0,vI 0,vE,vI 0] 46)):=(Fr.refl [] w).alloc _;have h0:(w.alloc (.cells #[vI 0,vI 0,vE,vI 0] 46)).heap[w.heap.size]?=some (.cells #[vI 0,vI 0,vE,vI 0] 46 (0,0)):=Array.getElem?_push_size
 generalize (w.alloc (.cells #[vI 0,vI 0,vE,vI 0] 46))=w1 at *
 have hBw:w.heap.size≤w.heap.size:=Nr' _;generalize hB:w.heap.size=B at h0 hBw ⊢;refine(Bm _ _).mono ?_;rintro e x1 ⟨rfl,rfl⟩;go_wp2_with fail;refine(Bl _ _).mono ?_;rintro e x1 ⟨rfl,rfl⟩;go_wp2_with fail;refine(Bl _ _).mono ?_;rintro e x1 ⟨rfl,rfl⟩;go_wp2_with fail;refine(CR _).out.mono ?_;rintro e x1 ⟨rfl,f1⟩;have g:=f1.keep h0 (fun h=>by cases h);obtain⟨c0,c1,c2,c3,z0,z1,z2,z3⟩:=Am g;have ff:=f0.trans f1;have gz:=Gc g (vI 3) (vI 0) (vS X) (vI 0);have fz:=ff.store4 hB (vI 3) (vI 0) (vS X) (vI 0);clear h0 g;go_wp2_with fail;generalize (((x1.setCell ⟨B,0,none⟩ (vI 3)).setCell ⟨B,1,none⟩ (vI 0)).setCell ⟨B,2,none⟩ (vS X)).setCell ⟨B,3,none⟩ (vI 0)=Z at gz fz ⊢;obtain⟨d0,d1,d2,d3,_⟩:=Am gz;refine bodyPost_ret (v:=.tuple #[C8 3 0 X 0,vI ((0+(1+X.length):Nat):Int),vI 0]) ?_ rfl ?_
 ·simp[results,Tryz.f30,go_sem,C8,d0,d1,d2,d3]
 ·exact⟨rfl,fz⟩
theorem Mv(l:LB):De l=0∨De l=2∨De l=5:=by
 unfold De;split
 ·split
  ·exact .inl rfl
  ·exact .inr (.inl rfl)
 ·exact .inr (.inr rfl)
theorem P0(s:ByteArray)(hs:s.size≤1000000)(hp:0<s.size)(h1:Bz s[0]=true)(w:World)(hE:E2 w):
  Calls prog 30 #[.string s] w fun e w'=>G8 (tok s.data.toList) 0 0 e∧Fr [] w w':=by
 have hd:=(Fo s[0]).1 h1;have n1:Ds s[0]=false:=by rw[← B2,Bool.eq_false_iff];intro h;simp[Eo] at h;omega
 have n2:Cj s[0]=false:=by rw[← Bq,Bool.eq_false_iff];intro h;simp[El] at h;omega
 have n3:s[0]≠35:=by intro h;rw[h] at hd;exact absurd hd (by decide)
 have ht:tok s.data.toList=(if De (Bn s.data.toList)=0 then .ok (4,[],Ci (Bn s.data.toList),(Bn s.data.toList).length)else .error (if De (Bn s.data.toList)=5 then 20 else De (Bn s.data.toList))):=by
  rw[C3 s hp,tok,if_neg (by simp[n1]),if_neg (by simp[n2]),if_neg (fun h=>n3 h.1),if_pos h1]
 rw[ht];have hsm:=B2 s[0];have hgr:=Bq s[0];have hdg:=C6 s[0];rw[n1] at hsm;rw[n2] at hgr;rw[h1] at hdg;have b35:(((s[0].toNat:Nat):Int)==35)=false:=by rw[bN];omega
 have e35:¬ ((s[0].toNat:Nat):Int)=35:=by omega
 have wv:wrap32 ((s[0].toNat:Nat):Int)=((s[0].toNat:Nat):Int):=by have:=s[0].toNat_lt;unfold wrap32;omega
 have hrl:=Fi s.data.toList;rw[Ar] at hrl;have cr:=fun w=>Hz (I5 s (by omega) w)
 have cd:=fun w hE=>Hz (Qy ⟨(Bn s.data.toList).toArray⟩ (by show(Bn s.data.toList).length≤281474976710656;omega) w hE)
 have hcase:=Mv (Bn s.data.toList);clear ht h1 n1 n2 n3 hd
 generalize Bn s.data.toList=X at *
 rcases hcase with hc|hc|hc
 ·have hc2:De (ByteArray.mk X.toArray).data.toList=0:=hc;rw[if_pos hc];go_enter func30,ntmps30;go_wp2_with fail;have f0:Fr [] w (w.alloc (.cells #[vI 0,vI 0,vE,vI 0] 46)):=(Fr.refl [] w).alloc _;have h0:(w.alloc (.cells #[vI 0,vI 0,vE,vI 0] 46)).heap[w.heap.size]?=some (.cells #[vI 0,vI 0,vE,vI 0] 46 (0,0)):=Array.getElem?_push_size
  generalize (w.alloc (.cells #[vI 0,vI 0,vE,vI 0] 46))=w1 at *
  have hBw:w.heap.size≤w.heap.size:=Nr' _;generalize hB:w.heap.size=B at h0 hBw ⊢;refine(Bm _ _).mono ?_;rintro e x1 ⟨rfl,rfl⟩;go_wp2_with fail;refine(Bl _ _).mono ?_;rintro e x1 ⟨rfl,rfl⟩;go_wp2_with fail;refine(Ca _ _).mono ?_;rintro e x1 ⟨rfl,rfl⟩;go_wp2_with fail;refine(cr _).out.mono ?_;rintro e x1 ⟨rfl,f1⟩;go_wp2_with fail;refine(cd _ ((hE.fr f0).fr f1).env).out.mono ?_;rintro e x2 ⟨rfl,f2⟩;rw[hc2];have en:Ci (ByteArray.mk X.toArray).data.toList=Ci X:=rfl;rw[en];have g:=f2.keep (f1.keep h0 (fun h=>by cases h)) (fun h=>by cases h);obtain⟨c0,c1,c2,c3,z0,z1,z2,z3⟩:=Am g;have ff:=(f0.trans f1).trans f2;have gz:=Gc g (vI 4) (vI 0) (.string ⟨([]:LB).toArray⟩) (vI (Ci X));have fz:=ff.store4 hB (vI 4) (vI 0) (.string ⟨([]:LB).toArray⟩) (vI (Ci X));clear h0 g;go_wp2_with fail;generalize (((x2.setCell ⟨B,0,none⟩ (vI 4)).setCell ⟨B,1,none⟩ (vI 0)).setCell ⟨B,2,none⟩ (.string ⟨([]:LB).toArray⟩)).setCell ⟨B,3,none⟩ (vI (Ci X))=Z at gz fz ⊢;obtain⟨d0,d1,d2,d3,_⟩:=Am gz;refine bodyPost_ret (v:=.tuple #[C8 4 0 ([]:LB) (Ci X),vI ((0+X.length:Nat):Int),vI 0]) ?_ rfl ?_
  ·simp[results,Tryz.f30,go_sem,C8,d0,d1,d2,d3]
  ·exact⟨rfl,fz⟩
 ·have hc2:De (ByteArray.mk X.toArray).data.toList=2:=hc;rw[if_neg (by omega),if_neg (by omega),hc];go_enter func30,ntmps30;go_wp2_with fail;have f0:Fr [] w (w.alloc (.cells #[vI 0,vI 0,vE,vI 0] 46)):=(Fr.refl [] w).alloc _;have h0:(w.alloc (.cells #[vI 0,vI 0,vE,vI 0] 46)).heap[w.heap.size]?=some (.cells #[vI 0,vI 0,vE,vI 0] 46 (0,0)):=Array.getElem?_push_size
  generalize (w.alloc (.cells #[vI 0,vI 0,vE,vI 0] 46))=w1 at *
  have hBw:w.heap.size≤w.heap.size:=Nr' _;generalize hB:w.heap.size=B at h0 hBw ⊢;refine(Bm _ _).mono ?_;rintro e x1 ⟨rfl,rfl⟩;go_wp2_with fail;refine(Bl _ _).mono ?_;rintro e x1 ⟨rfl,rfl⟩;go_wp2_with fail;refine(Ca _ _).mono ?_;rintro e x1 ⟨rfl,rfl⟩;go_wp2_with fail;refine(cr _).out.mono ?_;rintro e x1 ⟨rfl,f1⟩;go_wp2_with fail;refine(cd _ ((hE.fr f0).fr f1).env).out.mono ?_;rintro e x2 ⟨rfl,f2⟩;rw[hc2];have en:Ci (ByteArray.mk X.toArray).data.toList=Ci X:=rfl;rw[en];have g:=f2.keep (f1.keep h0 (fun h=>by cases h)) (fun h=>by cases h);obtain⟨c0,c1,c2,c3,z0,z1,z2,z3⟩:=Am g;have ff:=(f0.trans f1).trans f2;have gz:=Gc g (vI 4) (vI 0) (.string ⟨([]:LB).toArray⟩) (vI (Ci X));have fz:=ff.store4 hB (vI 4) (vI 0) (.string ⟨([]:LB).toArray⟩) (vI (Ci X));clear h0 g;go_wp2_with fail;generalize (((x2.setCell ⟨B,0,none⟩ (vI 4)).setCell ⟨B,1,none⟩ (vI 0)).setCell ⟨B,2,none⟩ (.string ⟨([]:LB).toArray⟩)).setCell ⟨B,3,none⟩ (vI (Ci X))=Z at gz fz ⊢;obtain⟨d0,d1,d2,d3,_⟩:=Am gz;refine bodyPost_ret (v:=.tuple #[C8 4 0 ([]:LB) (Ci X),vI ((0+X.length:Nat):Int),vI 2]) ?_ rfl ?_
  ·simp[results,Tryz.f30,go_sem,C8,d0,d1,d2,d3]
  ·exact⟨D7 rfl,fz⟩
 ·have hc2:De (ByteArray.mk X.toArray).data.toList=5:=hc;rw[if_neg (by omega),if_pos hc];go_enter func30,ntmps30;go_wp2_with fail;have f0:Fr [] w (w.alloc (.cells #[vI 0,vI 0,vE,vI 0] 46)):=(Fr.refl [] w).alloc _;have h0:(w.alloc (.cells #[vI 0,vI 0,vE,vI 0] 46)).heap[w.heap.size]?=some (.cells #[vI 0,vI 0,vE,vI 0] 46 (0,0)):=Array.getElem?_push_size
  generalize (w.alloc (.cells #[vI 0,vI 0,vE,vI 0] 46))=w1 at *
  have hBw:w.heap.size≤w.heap.size:=Nr' _;generalize hB:w.heap.size=B at h0 hBw ⊢;refine(Bm _ _).mono ?_;rintro e x1 ⟨rfl,rfl⟩;go_wp2_with fail;refine(Bl _ _).mono ?_;rintro e x1 ⟨rfl,rfl⟩;go_wp2_with fail;refine(Ca _ _).mono ?_;rintro e x1 ⟨rfl,rfl⟩;go_wp2_with fail;refine(cr _).out.mono ?_;rintro e x1 ⟨rfl,f1⟩;go_wp2_with fail;refine(cd _ ((hE.fr f0).fr f1).env).out.mono ?_;rintro e x2 ⟨rfl,f2⟩;rw[hc2];have en:Ci (ByteArray.mk X.toArray).data.toList=Ci X:=rfl;rw[en];have g:=f2.keep (f1.keep h0 (fun h=>by cases h)) (fun h=>by cases h);obtain⟨c0,c1,c2,c3,z0,z1,z2,z3⟩:=Am g;have ff:=(f0.trans f1).trans f2;have gz:=Gc g (vI 4) (vI 0) (.string ⟨([]:LB).toArray⟩) (vI (Ci X));have fz:=ff.store4 hB (vI 4) (vI 0) (.string ⟨([]:LB).toArray⟩) (vI (Ci X));clear h0 g;go_wp2_with fail;generalize (((x2.setCell ⟨B,0,none⟩ (vI 4)).setCell ⟨B,1,none⟩ (vI 0)).setCell ⟨B,2,none⟩ (.string ⟨([]:LB).toArray⟩)).setCell ⟨B,3,none⟩ (vI (Ci X))=Z at gz fz ⊢;obtain⟨d0,d1,d2,d3,_⟩:=Am gz;refine bodyPost_ret (v:=.tuple #[C8 4 0 ([]:LB) (Ci X),vI ((0+X.length:Nat):Int),vI 20]) ?_ rfl ?_
  ·simp[results,Tryz.f30,go_sem,C8,d0,d1,d2,d3]
  ·exact⟨D7 rfl,fz⟩
theorem Qv(l:LB)(r:LB)(h:l=34::r):tok l=match Lg l with
  | none => .error 20
  | some x=>match unq x with
   | none => .error 20
   | some t => .ok (5,t,0,x.length):=by
 subst h;have e0:Lg (34::r)=(D1 r).map fun k=>(34::r).take (1+k):=rfl
 rw[e0,tok,if_neg (by decide),if_neg (by decide),if_neg (fun x=>absurd x.1 (by decide)),if_neg (by decide),if_pos rfl]
 cases e:D1 r with
 | none=>rfl
 | some k =>
  have hk:=Mq r false k e;simp only[Option.map_some]
  cases unq ((34::r).take (1+k))with
  | none=>rfl
  | some t =>
   have:((34::r).take (1+k)).length=1+k:=by rw[List.length_take,Lc'];omega
   simp only[this]
theorem quoL_le{l x:LB}(h:Lg l=some x):x.length≤l.length:=by
 unfold Lg at h
 cases e:D1 (l.drop 1)with
 | none=>rw[e] at h;cases h
 | some k=>rw[e] at h;cases h;rw[List.length_take];omega
theorem P4(s:ByteArray)(hs:s.size≤1000000)(hp:0<s.size)(h1:s[0]=34)(w:World)(_hE:E2 w):
  Calls prog 30 #[.string s] w fun e w'=>G8 (tok s.data.toList) 0 0 e∧Fr [] w w':=by
 have hv:s[0].toNat=34:=by rw[h1];rfl
 have ht:=Qv s.data.toList (s.data.toList.drop 1) ((C3 s hp).trans (by rw[h1]));rw[ht];have hsm:Eo ((s[0].toNat:Nat):Int)=false:=by rw[B2,h1];decide
 have hgr:El ((s[0].toNat:Nat):Int)=false:=by rw[Bq,h1];decide
 have hdg:Fw ((s[0].toNat:Nat):Int)=false:=by rw[C6,h1];decide
 have b35:(((s[0].toNat:Nat):Int)==35)=false:=by rw[bN];omega
 have e35:¬ ((s[0].toNat:Nat):Int)=35:=by omega
 have b34:(((s[0].toNat:Nat):Int)==34)=true:=by rw[beq_iff_eq];omega
 have e34:((s[0].toNat:Nat):Int)=34:=by omega
 have wv:wrap32 ((s[0].toNat:Nat):Int)=((s[0].toNat:Nat):Int):=by have:=s[0].toNat_lt;unfold wrap32;omega
 have cq:=fun w=>Hz (Oc s hs w)
 clear ht h1 hv
 cases hq:Lg s.data.toList with
 | none =>
  rw[hq] at cq;simp only[Option.getD_none,Option.isSome_none] at cq ⊢;go_enter func30,ntmps30;go_wp2_with fail;have f0:Fr [] w (w.alloc (.cells #[vI 0,vI 0,vE,vI 0] 46)):=(Fr.refl [] w).alloc _;have h0:(w.alloc (.cells #[vI 0,vI 0,vE,vI 0] 46)).heap[w.heap.size]?=some (.cells #[vI 0,vI 0,vE,vI 0] 46 (0,0)):=Array.getElem?_push_size
  generalize (w.alloc (.cells #[vI 0,vI 0,vE,vI 0] 46))=w1 at *
  have hBw:w.heap.size≤w.heap.size:=Nr' _;generalize hB:w.heap.size=B at h0 hBw ⊢;refine(Bm _ _).mono ?_;rintro e x1 ⟨rfl,rfl⟩;go_wp2_with fail;refine(Bl _ _).mono ?_;rintro e x1 ⟨rfl,rfl⟩;go_wp2_with fail;refine(Ca _ _).mono ?_;rintro e x1 ⟨rfl,rfl⟩;go_wp2_with fail;refine(cq _).out.mono ?_;rintro e x1 ⟨rfl,rfl⟩;have g:=h0;obtain⟨c0,c1,c2,c3,z0,z1,z2,z3⟩:=Am g;have ff:=f0;have gz:=Gc g (vI 0) (vI 0) (.string ⟨([]:LB).toArray⟩) (vI 0);have fz:=ff.store4 hB (vI 0) (vI 0) (.string ⟨([]:LB).toArray⟩) (vI 0);clear h0 g;go_wp2_with fail;generalize (((w1.setCell ⟨B,0,none⟩ (vI 0)).setCell ⟨B,1,none⟩ (vI 0)).setCell ⟨B,2,none⟩ (.string ⟨([]:LB).toArray⟩)).setCell ⟨B,3,none⟩ (vI 0)=Z at gz fz ⊢;obtain⟨d0,d1,d2,d3,_⟩:=Am gz;refine bodyPost_ret (v:=.tuple #[C8 0 0 ([]:LB) 0,vI ((0:Nat):Int),vI 20]) ?_ rfl ?_
  ·simp[results,Tryz.f30,go_sem,C8,d0,d1,d2,d3]
  ·exact⟨D7 rfl,fz⟩
 | some X =>
  have hx:=quoL_le hq;rw[Ar] at hx;rw[hq] at cq;simp only[Option.getD_some,Option.isSome_some] at cq ⊢;have cu:=fun w=>Hz (Ly ⟨X.toArray⟩ (by show X.length≤16777216;omega) w)
  have hxa:(ByteArray.mk X.toArray).data.toList=X:=rfl;rw[hxa] at cu;clear hq hxa
  cases hu:unq X with
  | none =>
   obtain⟨u1,u2⟩:=unq_n hu;rw[u1,u2] at cu;clear hu u1 u2;simp only;go_enter func30,ntmps30;go_wp2_with fail;have f0:Fr [] w (w.alloc (.cells #[vI 0,vI 0,vE,vI 0] 46)):=(Fr.refl [] w).alloc _;have h0:(w.alloc (.cells #[vI 0,vI 0,vE,vI 0] 46)).heap[w.heap.size]?=some (.cells #[vI 0,vI 0,vE,vI 0] 46 (0,0)):=Array.getElem?_push_size
   generalize (w.alloc (.cells #[vI 0,vI 0,vE,vI 0] 46))=w1 at *
   have hBw:w.heap.size≤w.heap.size:=Nr' _;generalize hB:w.heap.size=B at h0 hBw ⊢;refine(Bm _ _).mono ?_;rintro e x1 ⟨rfl,rfl⟩;go_wp2_with fail;refine(Bl _ _).mono ?_;rintro e x1 ⟨rfl,rfl⟩;go_wp2_with fail;refine(Ca _ _).mono ?_;rintro e x1 ⟨rfl,rfl⟩;go_wp2_with fail;refine(cq _).out.mono ?_;rintro e x1 ⟨rfl,rfl⟩;go_wp2_with fail;refine(cu _).out.mono ?_;rintro e x1 ⟨rfl,f1⟩;have g:=f1.keep h0 (fun h=>by cases h);obtain⟨c0,c1,c2,c3,z0,z1,z2,z3⟩:=Am g;have ff:=f0.trans f1;have gz:=Gc g (vI 0) (vI 0) (.string ⟨([]:LB).toArray⟩) (vI 0);have fz:=ff.store4 hB (vI 0) (vI 0) (.string ⟨([]:LB).toArray⟩) (vI 0);clear h0 g;go_wp2_with fail;generalize (((x1.setCell ⟨B,0,none⟩ (vI 0)).setCell ⟨B,1,none⟩ (vI 0)).setCell ⟨B,2,none⟩ (.string ⟨([]:LB).toArray⟩)).setCell ⟨B,3,none⟩ (vI 0)=Z at gz fz ⊢;obtain⟨d0,d1,d2,d3,_⟩:=Am gz;refine bodyPost_ret (v:=.tuple #[C8 0 0 ([]:LB) 0,vI ((0:Nat):Int),vI 20]) ?_ rfl ?_
   ·simp[results,Tryz.f30,go_sem,C8,d0,d1,d2,d3]
   ·exact⟨D7 rfl,fz⟩
  | some U =>
   obtain⟨u1,u2⟩:=unq_s hu;rw[u1,u2] at cu;clear hu u1 u2;simp only;go_enter func30,ntmps30;go_wp2_with fail;have f0:Fr [] w (w.alloc (.cells #[vI 0,vI 0,vE,vI 0] 46)):=(Fr.refl [] w).alloc _;have h0:(w.alloc (.cells #[vI 0,vI 0,vE,vI 0] 46)).heap[w.heap.size]?=some (.cells #[vI 0,vI 0,vE,vI 0] 46 (0,0)):=Array.getElem?_push_size
   generalize (w.alloc (.cells #[vI 0,vI 0,vE,vI 0] 46))=w1 at *
   have hBw:w.heap.size≤w.heap.size:=Nr' _;generalize hB:w.heap.size=B at h0 hBw ⊢;refine(Bm _ _).mono ?_;rintro e x1 ⟨rfl,rfl⟩;go_wp2_with fail;refine(Bl _ _).mono ?_;rintro e x1 ⟨rfl,rfl⟩;go_wp2_with fail;refine(Ca _ _).mono ?_;rintro e x1 ⟨rfl,rfl⟩;go_wp2_with fail;refine(cq _).out.mono ?_;rintro e x1 ⟨rfl,rfl⟩;go_wp2_with fail;refine(cu _).out.mono ?_;rintro e x1 ⟨rfl,f1⟩;have g:=f1.keep h0 (fun h=>by cases h);obtain⟨c0,c1,c2,c3,z0,z1,z2,z3⟩:=Am g;have ff:=f0.trans f1;have gz:=Gc g (vI 5) (vI 0) (vS U) (vI 0);have fz:=ff.store4 hB (vI 5) (vI 0) (vS U) (vI 0);clear h0 g;go_wp2_with fail;generalize (((x1.setCell ⟨B,0,none⟩ (vI 5)).setCell ⟨B,1,none⟩ (vI 0)).setCell ⟨B,2,none⟩ (vS U)).setCell ⟨B,3,none⟩ (vI 0)=Z at gz fz ⊢;obtain⟨d0,d1,d2,d3,_⟩:=Am gz;refine bodyPost_ret (v:=.tuple #[C8 5 0 U 0,vI ((0+X.length:Nat):Int),vI 0]) ?_ rfl ?_
   ·simp[results,Tryz.f30,go_sem,C8,d0,d1,d2,d3]
   ·exact⟨rfl,fz⟩
theorem Gp{l:LB}(h:Ay.find? (fun x=>x.isPrefixOf l)=none):Fz l=[]:=by unfold Fz Hk;rw[h];rfl
theorem Gq{l x:LB}(h:Ay.find? (fun x=>x.isPrefixOf l)=some x):Fz l=x:=by unfold Fz Hk;rw[h];rfl
theorem Se(s:ByteArray)(hs:s.size≤1000000)(hp:0<s.size)(h1:Ds s[0]=false)(h2:Cj s[0]=false)(h3:s[0]≠35)(h4:Bz s[0]=false)(h5:s[0]≠34)(w:World)(_hE:E2 w):
  Calls prog 30 #[.string s] w fun e w'=>G8 (tok s.data.toList) 0 0 e∧Fr [] w w':=by
 have ht:tok s.data.toList=match Ay.find? (fun x=>x.isPrefixOf s.data.toList)with
   | none => .error 20
   | some x => .ok (7,x,0,x.length):=by
  conv=>lhs;rw[C3 s hp]
  rw[tok,if_neg (by simp[h1]),if_neg (by simp[h2]),if_neg ?n3,if_neg (by simp[h4]),if_neg h5,← C3 s hp]
  case n3 =>
   rintro⟨x1,x2⟩;exact h3 x1
  all_goals
   cases Ay.find? (fun x=>x.isPrefixOf s.data.toList)with
   | none=>rfl
   | some x=>rfl
 rw[ht];have hsm:=B2 s[0];have hgr:=Bq s[0];have hdg:=C6 s[0];rw[h1] at hsm;rw[h2] at hgr;rw[h4] at hdg;have e34:¬ ((s[0].toNat:Nat):Int)=34:=by intro h;apply h5;apply UInt8.toNat_inj.1;have h9:(34:UInt8).toNat=34:=rfl;omega
 have b34:(((s[0].toNat:Nat):Int)==34)=false:=by rw[bN];exact e34
 have wv:wrap32 ((s[0].toNat:Nat):Int)=((s[0].toNat:Nat):Int):=by have:=s[0].toNat_lt;unfold wrap32;omega
 have cs:=fun w=>Hz (J1 s hs w)
 have b35:(((s[0].toNat:Nat):Int)==35)=false:=by rw[bN];intro h;apply h3;apply UInt8.toNat_inj.1;have h9:(35:UInt8).toNat=35:=rfl;omega
 have e35:¬ ((s[0].toNat:Nat):Int)=35:=by rw[bN] at b35;exact b35
 clear h3;clear ht h1 h2 h4 h5
 cases hq:Ay.find? (fun x=>x.isPrefixOf s.data.toList)with
 | none =>
  rw[Gp hq] at cs;clear hq;simp only;go_enter func30,ntmps30;go_wp2_with fail;have f0:Fr [] w (w.alloc (.cells #[vI 0,vI 0,vE,vI 0] 46)):=(Fr.refl [] w).alloc _;have h0:(w.alloc (.cells #[vI 0,vI 0,vE,vI 0] 46)).heap[w.heap.size]?=some (.cells #[vI 0,vI 0,vE,vI 0] 46 (0,0)):=Array.getElem?_push_size
  generalize (w.alloc (.cells #[vI 0,vI 0,vE,vI 0] 46))=w1 at *
  have hBw:w.heap.size≤w.heap.size:=Nr' _;generalize hB:w.heap.size=B at h0 hBw ⊢;refine(Bm _ _).mono ?_;rintro e x1 ⟨rfl,rfl⟩;go_wp2_with fail;refine(Bl _ _).mono ?_;rintro e x1 ⟨rfl,rfl⟩;go_wp2_with fail;refine(Ca _ _).mono ?_;rintro e x1 ⟨rfl,rfl⟩;go_wp2_with fail;refine(cs _).out.mono ?_;rintro e x1 ⟨rfl,f1'⟩;have f1:=Fr.of_below f1';clear f1';have g:=f1.keep h0 (fun h=>by cases h);obtain⟨c0,c1,c2,c3,z0,z1,z2,z3⟩:=Am g;have ff:=f0.trans f1;have gz:=Gc g (vI 0) (vI 0) (.string ⟨([]:LB).toArray⟩) (vI 0);have fz:=ff.store4 hB (vI 0) (vI 0) (.string ⟨([]:LB).toArray⟩) (vI 0);clear h0 g;go_wp2_with fail;generalize (((x1.setCell ⟨B,0,none⟩ (vI 0)).setCell ⟨B,1,none⟩ (vI 0)).setCell ⟨B,2,none⟩ (.string ⟨([]:LB).toArray⟩)).setCell ⟨B,3,none⟩ (vI 0)=Z at gz fz ⊢;obtain⟨d0,d1,d2,d3,_⟩:=Am gz;refine bodyPost_ret (v:=.tuple #[C8 0 0 ([]:LB) 0,vI ((0:Nat):Int),vI 20]) ?_ rfl ?_
  ·simp[results,Tryz.f30,go_sem,C8,d0,d1,d2,d3]
  ·exact⟨D7 rfl,fz⟩
 | some X =>
  have hx:¬ X=[]:=by
   have:=(Dv X (List.mem_of_find?_eq_some hq)).1;intro h;subst h;simp at this
  have hx0:X.isEmpty=false:=by cases X with|nil=>exact absurd rfl hx|cons _ _=>rfl
  have hx2:(ByteArray.mk X.toArray).toList=X:=by rw[ByteArray.toList_eq]
  have e1:¬ (ByteArray.mk X.toArray).toList=[]:=by rw[hx2];exact hx
  have e0:(ByteArray.mk X.toArray).toList.isEmpty=false:=by rw[hx2];exact hx0
  rw[Gq hq] at cs;clear hq hx2;simp only;go_enter func30,ntmps30;go_wp2_with fail;have f0:Fr [] w (w.alloc (.cells #[vI 0,vI 0,vE,vI 0] 46)):=(Fr.refl [] w).alloc _;have h0:(w.alloc (.cells #[vI 0,vI 0,vE,vI 0] 46)).heap[w.heap.size]?=some (.cells #[vI 0,vI 0,vE,vI 0] 46 (0,0)):=Array.getElem?_push_size
  generalize (w.alloc (.cells #[vI 0,vI 0,vE,vI 0] 46))=w1 at *
  have hBw:w.heap.size≤w.heap.size:=Nr' _;generalize hB:w.heap.size=B at h0 hBw ⊢;refine(Bm _ _).mono ?_;rintro e x1 ⟨rfl,rfl⟩;go_wp2_with fail;refine(Bl _ _).mono ?_;rintro e x1 ⟨rfl,rfl⟩;go_wp2_with fail;refine(Ca _ _).mono ?_;rintro e x1 ⟨rfl,rfl⟩;go_wp2_with fail;refine(cs _).out.mono ?_;rintro e x1 ⟨rfl,f1'⟩;have f1:=Fr.of_below f1';clear f1';have g:=f1.keep h0 (fun h=>by cases h);obtain⟨c0,c1,c2,c3,z0,z1,z2,z3⟩:=Am g;have ff:=f0.trans f1;have gz:=Gc g (vI 7) (vI 0) (vS X) (vI 0);have fz:=ff.store4 hB (vI 7) (vI 0) (vS X) (vI 0);clear h0 g;go_wp2_with fail;generalize (((x1.setCell ⟨B,0,none⟩ (vI 7)).setCell ⟨B,1,none⟩ (vI 0)).setCell ⟨B,2,none⟩ (vS X)).setCell ⟨B,3,none⟩ (vI 0)=Z at gz fz ⊢;obtain⟨d0,d1,d2,d3,_⟩:=Am gz;refine bodyPost_ret (v:=.tuple #[C8 7 0 X 0,vI ((0+X.length:Nat):Int),vI 0]) ?_ rfl ?_
  ·simp[results,Tryz.f30,go_sem,C8,d0,d1,d2,d3]
  ·exact⟨rfl,fz⟩
theorem P2(s:ByteArray)(hs:s.size≤1000000)(hp:0<s.size)(h1:Ds s[0]=false)(h2:Cj s[0]=false)(h3:s[0]=35)(h6:s.size≤1)(h4:Bz s[0]=false)(h5:s[0]≠34)(w:World)(_hE:E2 w):
  Calls prog 30 #[.string s] w fun e w'=>G8 (tok s.data.toList) 0 0 e∧Fr [] w w':=by
 have ht:tok s.data.toList=match Ay.find? (fun x=>x.isPrefixOf s.data.toList)with
   | none => .error 20
   | some x => .ok (7,x,0,x.length):=by
  conv=>lhs;rw[C3 s hp]
  rw[tok,if_neg (by simp[h1]),if_neg (by simp[h2]),if_neg ?n3,if_neg (by simp[h4]),if_neg h5,← C3 s hp]
  case n3 =>
   rintro⟨x1,x2⟩;rw[List.drop_of_length_le (by rw[Ar];exact h6)] at x2;simp at x2
  all_goals
   cases Ay.find? (fun x=>x.isPrefixOf s.data.toList)with
   | none=>rfl
   | some x=>rfl
 rw[ht];have hsm:=B2 s[0];have hgr:=Bq s[0];have hdg:=C6 s[0];rw[h1] at hsm;rw[h2] at hgr;rw[h4] at hdg;have e34:¬ ((s[0].toNat:Nat):Int)=34:=by intro h;apply h5;apply UInt8.toNat_inj.1;have h9:(34:UInt8).toNat=34:=rfl;omega
 have b34:(((s[0].toNat:Nat):Int)==34)=false:=by rw[bN];exact e34
 have wv:wrap32 ((s[0].toNat:Nat):Int)=((s[0].toNat:Nat):Int):=by have:=s[0].toNat_lt;unfold wrap32;omega
 have cs:=fun w=>Hz (J1 s hs w)
 have b35:(((s[0].toNat:Nat):Int)==35)=true:=by rw[h3];rfl
 have e35:((s[0].toNat:Nat):Int)=35:=by rw[h3];rfl
 have l1:¬ 1<(s.size:Int):=by omega
 have l2:decide (1<(s.size:Int))=false:=by simpa using l1
 clear h3;clear ht h1 h2 h4 h5
 cases hq:Ay.find? (fun x=>x.isPrefixOf s.data.toList)with
 | none =>
  rw[Gp hq] at cs;clear hq;simp only;go_enter func30,ntmps30;go_wp2_with fail;have f0:Fr [] w (w.alloc (.cells #[vI 0,vI 0,vE,vI 0] 46)):=(Fr.refl [] w).alloc _;have h0:(w.alloc (.cells #[vI 0,vI 0,vE,vI 0] 46)).heap[w.heap.size]?=some (.cells #[vI 0,vI 0,vE,vI 0] 46 (0,0)):=Array.getElem?_push_size
  generalize (w.alloc (.cells #[vI 0,vI 0,vE,vI 0] 46))=w1 at *
  have hBw:w.heap.size≤w.heap.size:=Nr' _;generalize hB:w.heap.size=B at h0 hBw ⊢;refine(Bm _ _).mono ?_;rintro e x1 ⟨rfl,rfl⟩;go_wp2_with fail;refine(Bl _ _).mono ?_;rintro e x1 ⟨rfl,rfl⟩;go_wp2_with fail;refine(Ca _ _).mono ?_;rintro e x1 ⟨rfl,rfl⟩;go_wp2_with fail;refine(cs _).out.mono ?_;rintro e x1 ⟨rfl,f1'⟩;have f1:=Fr.of_below f1';clear f1';have g:=f1.keep h0 (fun h=>by cases h);obtain⟨c0,c1,c2,c3,z0,z1,z2,z3⟩:=Am g;have ff:=f0.trans f1;have gz:=Gc g (vI 0) (vI 0) (.string ⟨([]:LB).toArray⟩) (vI 0);have fz:=ff.store4 hB (vI 0) (vI 0) (.string ⟨([]:LB).toArray⟩) (vI 0);clear h0 g;go_wp2_with fail;generalize (((x1.setCell ⟨B,0,none⟩ (vI 0)).setCell ⟨B,1,none⟩ (vI 0)).setCell ⟨B,2,none⟩ (.string ⟨([]:LB).toArray⟩)).setCell ⟨B,3,none⟩ (vI 0)=Z at gz fz ⊢;obtain⟨d0,d1,d2,d3,_⟩:=Am gz;refine bodyPost_ret (v:=.tuple #[C8 0 0 ([]:LB) 0,vI ((0:Nat):Int),vI 20]) ?_ rfl ?_
  ·simp[results,Tryz.f30,go_sem,C8,d0,d1,d2,d3]
  ·exact⟨D7 rfl,fz⟩
 | some X =>
  have hx:¬ X=[]:=by
   have:=(Dv X (List.mem_of_find?_eq_some hq)).1;intro h;subst h;simp at this
  have hx0:X.isEmpty=false:=by cases X with|nil=>exact absurd rfl hx|cons _ _=>rfl
  have hx2:(ByteArray.mk X.toArray).toList=X:=by rw[ByteArray.toList_eq]
  have e1:¬ (ByteArray.mk X.toArray).toList=[]:=by rw[hx2];exact hx
  have e0:(ByteArray.mk X.toArray).toList.isEmpty=false:=by rw[hx2];exact hx0
  rw[Gq hq] at cs;clear hq hx2;simp only;go_enter func30,ntmps30;go_wp2_with fail;have f0:Fr [] w (w.alloc (.cells #[vI 0,vI 0,vE,vI 0] 46)):=(Fr.refl [] w).alloc _;have h0:(w.alloc (.cells #[vI 0,vI 0,vE,vI 0] 46)).heap[w.heap.size]?=some (.cells #[vI 0,vI 0,vE,vI 0] 46 (0,0)):=Array.getElem?_push_size
  generalize (w.alloc (.cells #[vI 0,vI 0,vE,vI 0] 46))=w1 at *
  have hBw:w.heap.size≤w.heap.size:=Nr' _;generalize hB:w.heap.size=B at h0 hBw ⊢;refine(Bm _ _).mono ?_;rintro e x1 ⟨rfl,rfl⟩;go_wp2_with fail;refine(Bl _ _).mono ?_;rintro e x1 ⟨rfl,rfl⟩;go_wp2_with fail;refine(Ca _ _).mono ?_;rintro e x1 ⟨rfl,rfl⟩;go_wp2_with fail;refine(cs _).out.mono ?_;rintro e x1 ⟨rfl,f1'⟩;have f1:=Fr.of_below f1';clear f1';have g:=f1.keep h0 (fun h=>by cases h);obtain⟨c0,c1,c2,c3,z0,z1,z2,z3⟩:=Am g;have ff:=f0.trans f1;have gz:=Gc g (vI 7) (vI 0) (vS X) (vI 0);have fz:=ff.store4 hB (vI 7) (vI 0) (vS X) (vI 0);clear h0 g;go_wp2_with fail;generalize (((x1.setCell ⟨B,0,none⟩ (vI 7)).setCell ⟨B,1,none⟩ (vI 0)).setCell ⟨B,2,none⟩ (vS X)).setCell ⟨B,3,none⟩ (vI 0)=Z at gz fz ⊢;obtain⟨d0,d1,d2,d3,_⟩:=Am gz;refine bodyPost_ret (v:=.tuple #[C8 7 0 X 0,vI ((0+X.length:Nat):Int),vI 0]) ?_ rfl ?_
  ·simp[results,Tryz.f30,go_sem,C8,d0,d1,d2,d3]
  ·exact⟨rfl,fz⟩
theorem P3(s:ByteArray)(hs:s.size≤1000000)(hp:0<s.size)(h1:Ds s[0]=false)(h2:Cj s[0]=false)(h3:s[0]=35)(h6:1<s.size)(h7:Cj s[1]=false)(h4:Bz s[0]=false)(h5:s[0]≠34)(w:World)(_hE:E2 w):
  Calls prog 30 #[.string s] w fun e w'=>G8 (tok s.data.toList) 0 0 e∧Fr [] w w':=by
 have ht:tok s.data.toList=match Ay.find? (fun x=>x.isPrefixOf s.data.toList)with
   | none => .error 20
   | some x => .ok (7,x,0,x.length):=by
  conv=>lhs;rw[C3 s hp]
  rw[tok,if_neg (by simp[h1]),if_neg (by simp[h2]),if_neg ?n3,if_neg (by simp[h4]),if_neg h5,← C3 s hp]
  case n3 =>
   rintro⟨x1,x2⟩;rw[Cb s 1 h6] at x2;simp[h7] at x2
  all_goals
   cases Ay.find? (fun x=>x.isPrefixOf s.data.toList)with
   | none=>rfl
   | some x=>rfl
 rw[ht];have hsm:=B2 s[0];have hgr:=Bq s[0];have hdg:=C6 s[0];rw[h1] at hsm;rw[h2] at hgr;rw[h4] at hdg;have e34:¬ ((s[0].toNat:Nat):Int)=34:=by intro h;apply h5;apply UInt8.toNat_inj.1;have h9:(34:UInt8).toNat=34:=rfl;omega
 have b34:(((s[0].toNat:Nat):Int)==34)=false:=by rw[bN];exact e34
 have wv:wrap32 ((s[0].toNat:Nat):Int)=((s[0].toNat:Nat):Int):=by have:=s[0].toNat_lt;unfold wrap32;omega
 have cs:=fun w=>Hz (J1 s hs w)
 have b35:(((s[0].toNat:Nat):Int)==35)=true:=by rw[h3];rfl
 have e35:((s[0].toNat:Nat):Int)=35:=by rw[h3];rfl
 have l1:1<(s.size:Int):=by omega
 have hg1:=Bq s[1];rw[h7] at hg1;have wv1:wrap32 ((s[1].toNat:Nat):Int)=((s[1].toNat:Nat):Int):=by have:=s[1].toNat_lt;unfold wrap32;omega
 clear h3 h7;clear ht h1 h2 h4 h5
 cases hq:Ay.find? (fun x=>x.isPrefixOf s.data.toList)with
 | none =>
  rw[Gp hq] at cs;clear hq;simp only;go_enter func30,ntmps30;go_wp2_with fail;have f0:Fr [] w (w.alloc (.cells #[vI 0,vI 0,vE,vI 0] 46)):=(Fr.refl [] w).alloc _;have h0:(w.alloc (.cells #[vI 0,vI 0,vE,vI 0] 46)).heap[w.heap.size]?=some (.cells #[vI 0,vI 0,vE,vI 0] 46 (0,0)):=Array.getElem?_push_size
  generalize (w.alloc (.cells #[vI 0,vI 0,vE,vI 0] 46))=w1 at *
  have hBw:w.heap.size≤w.heap.size:=Nr' _;generalize hB:w.heap.size=B at h0 hBw ⊢;refine(Bm _ _).mono ?_;rintro e x1 ⟨rfl,rfl⟩;go_wp2_with fail;refine(Bl _ _).mono ?_;rintro e x1 ⟨rfl,rfl⟩;go_wp2_with fail;refine(Bl _ _).mono ?_;rintro e x1 ⟨rfl,rfl⟩;go_wp2_with fail;refine(Ca _ _).mono ?_;rintro e x1 ⟨rfl,rfl⟩;go_wp2_with fail;refine(cs _).out.mono ?_;rintro e x1 ⟨rfl,f1'⟩;have f1:=Fr.of_below f1';clear f1';have g:=f1.keep h0 (fun h=>by cases h);obtain⟨c0,c1,c2,c3,z0,z1,z2,z3⟩:=Am g;have ff:=f0.trans f1;have gz:=Gc g (vI 0) (vI 0) (.string ⟨([]:LB).toArray⟩) (vI 0);have fz:=ff.store4 hB (vI 0) (vI 0) (.string ⟨([]:LB).toArray⟩) (vI 0);clear h0 g;go_wp2_with fail;generalize (((x1.setCell ⟨B,0,none⟩ (vI 0)).setCell ⟨B,1,none⟩ (vI 0)).setCell ⟨B,2,none⟩ (.string ⟨([]:LB).toArray⟩)).setCell ⟨B,3,none⟩ (vI 0)=Z at gz fz ⊢;obtain⟨d0,d1,d2,d3,_⟩:=Am gz;refine bodyPost_ret (v:=.tuple #[C8 0 0 ([]:LB) 0,vI ((0:Nat):Int),vI 20]) ?_ rfl ?_
  ·simp[results,Tryz.f30,go_sem,C8,d0,d1,d2,d3]
  ·exact⟨D7 rfl,fz⟩
 | some X =>
  have hx:¬ X=[]:=by
   have:=(Dv X (List.mem_of_find?_eq_some hq)).1;intro h;subst h;simp at this
  have hx0:X.isEmpty=false:=by cases X with|nil=>exact absurd rfl hx|cons _ _=>rfl
  have hx2:(ByteArray.mk X.toArray).toList=X:=by rw[ByteArray.toList_eq]
  have e1:¬ (ByteArray.mk X.toArray).toList=[]:=by rw[hx2];exact hx
  have e0:(ByteArray.mk X.toArray).toList.isEmpty=false:=by rw[hx2];exact hx0
  rw[Gq hq] at cs;clear hq hx2;simp only;go_enter func30,ntmps30;go_wp2_with fail;have f0:Fr [] w (w.alloc (.cells #[vI 0,vI 0,vE,vI 0] 46)):=(Fr.refl [] w).alloc _;have h0:(w.alloc (.cells #[vI 0,vI 0,vE,vI 0] 46)).heap[w.heap.size]?=some (.cells #[vI 0,vI 0,vE,vI 0] 46 (0,0)):=Array.getElem?_push_size
  generalize (w.alloc (.cells #[vI 0,vI 0,vE,vI 0] 46))=w1 at *
  have hBw:w.heap.size≤w.heap.size:=Nr' _;generalize hB:w.heap.size=B at h0 hBw ⊢;refine(Bm _ _).mono ?_;rintro e x1 ⟨rfl,rfl⟩;go_wp2_with fail;refine(Bl _ _).mono ?_;rintro e x1 ⟨rfl,rfl⟩;go_wp2_with fail;refine(Bl _ _).mono ?_;rintro e x1 ⟨rfl,rfl⟩;go_wp2_with fail;refine(Ca _ _).mono ?_;rintro e x1 ⟨rfl,rfl⟩;go_wp2_with fail;refine(cs _).out.mono ?_;rintro e x1 ⟨rfl,f1'⟩;have f1:=Fr.of_below f1';clear f1';have g:=f1.keep h0 (fun h=>by cases h);obtain⟨c0,c1,c2,c3,z0,z1,z2,z3⟩:=Am g;have ff:=f0.trans f1;have gz:=Gc g (vI 7) (vI 0) (vS X) (vI 0);have fz:=ff.store4 hB (vI 7) (vI 0) (vS X) (vI 0);clear h0 g;go_wp2_with fail;generalize (((x1.setCell ⟨B,0,none⟩ (vI 7)).setCell ⟨B,1,none⟩ (vI 0)).setCell ⟨B,2,none⟩ (vS X)).setCell ⟨B,3,none⟩ (vI 0)=Z at gz fz ⊢;obtain⟨d0,d1,d2,d3,_⟩:=Am gz;refine bodyPost_ret (v:=.tuple #[C8 7 0 X 0,vI ((0+X.length:Nat):Int),vI 0]) ?_ rfl ?_
  ·simp[results,Tryz.f30,go_sem,C8,d0,d1,d2,d3]
  ·exact⟨rfl,fz⟩
theorem one_any(s:ByteArray)(hs:s.size≤1000000)(hp:0<s.size)(w:World)(hE:E2 w):
  Calls prog 30 #[.string s] w fun e w'=>G8 (tok s.data.toList) 0 0 e∧Fr [] w w':=by
 cases h1:Ds s[0] with
 | true=>exact P5 s hs hp h1 w hE
 | false=>cases h2:Cj s[0] with
  | true=>exact P1 s hs hp h1 h2 w hE
  | false =>
   by_cases h3:s[0]=35
   ·by_cases h6:1<s.size
    ·cases h7:Cj s[1] with
     | true=>exact one_tag s hs hp h3 h6 h7 w hE
     | false=>exact P3 s hs hp h1 h2 h3 h6 h7 (by rw[h3];decide) (by rw[h3];decide) w hE
    ·exact P2 s hs hp h1 h2 h3 (by omega) (by rw[h3];decide) (by rw[h3];decide) w hE
   ·cases h4:Bz s[0] with
    | true=>exact P0 s hs hp h4 w hE
    | false =>
     by_cases h5:s[0]=34
     ·exact P4 s hs hp h5 w hE
     ·exact Se s hs hp h1 h2 h3 h4 h5 w hE
theorem Ox{c:UInt8}{n:Nat}(hn:n<256)(h:c≠UInt8.ofNat n):(((c.toNat:Nat):Int)==(n:Int))=false:=by
 rw[bN];intro h2;apply h;apply UInt8.toNat_inj.1;rw[UInt8.toNat_ofNat'];omega
end Go.Proofs.YtpjkfeehgookkaaGreatDoor
