/- A part of the proof: Ls, Lt, Lu, L6, Lx, Lz. -/
import Derived.BigQuiet
import Derived.Deep.QuietTactic
import Derived.Deep.AppendLies
import Derived.Test.YtlafbbnikgcdlaaGreatDoorKb3
namespace Go.Proofs.YtlafbbnikgcdlaaGreatDoor
open Go.RowKit
open _root_.Go.Proofs.Tryz
set_option linter.all false
set_option maxHeartbeats 16000000
set_option maxRecDepth 100000
variable{p:Prop}
open List renaming length_cons→Lc',length_append→La',getElem?_eq_getElem→Lg',cons_append→Lp',length_nil→Ln',append_assoc→Ls'
open Nat renaming le_refl→Nr'
section
open Go.RowKit Go.Shelf
attribute [local go_sem] Oper.semAt_some
def Ie(k:Nat):LB:=([32]:LB).intercalate (B3.drop k)
theorem srest_zero:Ie 0=Sr:=by decide
theorem srest_step:∀ k:Fin 19,Lib.indexByte (Ie k.val) 32=((B3.getD k.val []).length:Nat)∧(Ie k.val).take (B3.getD k.val []).length=B3.getD k.val []∧(Ie k.val).drop ((B3.getD k.val []).length+1)=Ie (k.val+1)∧(B3.getD k.val []).length+1≤(Ie k.val).length∧1≤(B3.getD k.val []).length:=by decide +kernel
theorem Ss:Lib.indexByte (Ie 19) 32 = -1∧Ie 19=B3.getD 19 []:=by decide +kernel
theorem srest_len:∀ k:Nat,k≤19→(Ie k).length≤100:=by
 have h:∀ k:Fin 20,(Ie k.val).length≤100:=by decide +kernel
 exact fun k hk=>h ⟨k,oM⟩
def Kv(l:LB):Value:=vS l
theorem Lg{W:World}{b:Nat}{x:Value}{T:TypeId}{fr:Nat×Nat}(h:W.heap[b]?=some (.cells #[x] T fr))(v:Value):(W.setCell ⟨b,0,none⟩ v).heap[b]?=some (.cells #[v] T fr):=by
 exact qq272
def lenAt(b:Nat)(w:World):Nat:=match w.cell? ⟨b,0,none⟩with
 | some (.string s)=>s.size
 | _=>0
theorem split_in(n:Nat)(hn:1≤n)(b B:Nat)(hB:b+3≤B)(w:World)
  (hs:w.heap[b]?=some (.cells #[Kv Sr] 9 (0,0))) (hsep:w.heap[b+1]?=some (.cells #[Kv [32]] 9 (0,0))) (hsv:w.heap[b+2]?=some (.cells #[vI 0] 3 (0,0))):
  Qn Fence.wide n prog 159 #[.pointer (some ⟨b+1,0,none⟩),.pointer (some ⟨b,0,none⟩),.pointer (some ⟨b+2,0,none⟩)] (fun x:LB=>#[Kv x]) b B (fun xs=>xs=B3) (fun pre=>pre <+: B3) 20 w:=by
 intro l J Jx W hW hJ hJx hY h0;refine callsIn_of_wp func159 rfl trivial ?_ rfl;simp only[ntmps159,List.size_toArray,Lc',Ln',Nat.reduceAdd,Nat.reduceSub,Array.replicate_succ,Array.replicate_zero,List.push_toArray,List.append_toArray,List.nil_append,Lp'];have cs:W.cell? ⟨b,0,none⟩=some (Kv Sr):=by rw[Ab ((hW.block b oM).trans hs)];rfl
 have cp:W.cell? ⟨b+1,0,none⟩=some (Kv [32]):=by rw[Ab ((hW.block (b+1) oM).trans hsep)];rfl
 have cv:W.cell? ⟨b+2,0,none⟩=some (vI 0):=by rw[Ab ((hW.block (b+2) oM).trans hsv)];rfl
 have fz:W.frozen? ⟨b,0,none⟩=false:=Ap ((hW.block b oM).trans hs) 0;unfold Kv at cp
 gi_wp2
 gi_loopw [] (fun wr=>∃ k:Nat,k≤19∧wr.heap[b]?=some (.cells #[Kv (Ie k)] 9 (0,0))∧wr.heap[b+1]?=some (.cells #[Kv [32]] 9 (0,0))∧wr.heap[b+2]?=some (.cells #[vI 0] 3 (0,0))∧J (B3.take k) wr) (fun wr=>lenAt b wr)
 case atStart=>exact⟨0,oM,by rw[srest_zero];exact(hW.block b oM).trans hs,(hW.block (b+1) oM).trans hsep,(hW.block (b+2) oM).trans hsv,h0⟩
 case round =>
  obtain⟨k,hk,hb0,hb1,hb2,hJk⟩:=hrel;have cs':wr.cell? ⟨b,0,none⟩=some (Kv (Ie k)):=Ab hb0 0;have fz':wr.frozen? ⟨b,0,none⟩=false:=Ap hb0 0;have cp':wr.cell? ⟨b+1,0,none⟩=some (.string ⟨#[32]⟩):=Ab hb1 0;have cv':wr.cell? ⟨b+2,0,none⟩=some (vI 0):=Ab hb2 0;clear cs cp cv fz;by_cases hlt:k<19
  ·obtain⟨i1,i2,i3,i4,i5⟩:=srest_step ⟨k,hlt⟩;simp only at i1 i2 i3 i4 i5;have hlen:(B3.take k).length=k:=by rw[List.length_take];exact Nat.min_eq_left (by show k≤20;omega)
   have htk:B3.take k++[B3.getD k []]=B3.take (k+1):=by
    rw[List.take_add_one,List.getD_eq_getElem?_getD,Lg' (by show k<20;omega)];rfl
   obtain⟨m,hm⟩:∃ m,(B3.getD k []).length=m:=⟨_,rfl⟩
   obtain⟨R,hRR⟩:∃ R:ByteArray,R=⟨(Ie k).toArray⟩:=⟨_,rfl⟩
   have hRs:R.size=(Ie k).length:=by rw[hRR];rfl
   have hX:Kv (B3.getD k [])= .string (R.extract 0 m):=by
    rw[Rm,hRR,← hm];show Kv _ = .string ⟨(List.take _ (Ie k)).toArray⟩;rw[i2];rfl
   have hX2:Value.string (R.extract (m+1) R.size)=Kv (Ie (k+1)):=by
    rw[← i3,hm]
    have e:R.extract (m+1) R.size=⟨((Ie k).drop (m+1)).toArray⟩:=by
     apply ByteArray.ext;apply Array.ext';have:=Lib.extract_to_end R (m+1);rw[this,hRR]
    rw[e];rfl
   have hY1:=hY (B3.take k) (B3.getD k []) wr hJk oM;rw[hX,htk] at hY1;obtain⟨fn,tmps,assign,body,hy,hR⟩:=hY1;have hix:=Tryz.strings_Index_one R 32 wr;have i1':Lib.indexByte R.data.toList 32=(m:Nat):=by rw[hRR,← hm];exact i1
   rw[i1'] at hix;have cs2:wr.cell? ⟨b,0,none⟩=some (.string R):=by rw[cs',hRR];rfl
   have hmR:m+1≤R.size:=by omega
   have hRb:R.size≤100:=by rw[hRs];exact srest_len k hk
   have q1:0≤(m:Int)∧(m:Int)≤(R.size:Int):=by omega
   have q2:0≤(m:Int)+1∧(m:Int)+1≤(R.size:Int):=by omega
   have HX2:=Hz hX2;have HL:=Hz (show(Ie (k+1)).length<R.size by rw[← i3,List.length_drop];omega);clear i1 i2 i3 i4 i5 i1' hX hX2 htk hm hRR hRs cs' hY hlen
   gi_wp2_with (refine⟨trivial,?_⟩;gi_at_call 124;refine(callsIn_wide.2 hix).mono ?_;rintro e x1 ⟨rfl,rfl⟩)
   refine hR.mono ?_;rintro e V (⟨rfl,hJ',hk'⟩| ⟨rfl,hJx'⟩)
   ·have vb0:=(hk'.block b oM).trans hb0;have vb1:=(hk'.block (b+1) oM).trans hb1;have vb2:=(hk'.block (b+2) oM).trans hb2;have d0:V.cell? ⟨b,0,none⟩=some (.string R):=by rw[Ab vb0,← cs2,Ab hb0]
    have d1:V.cell? ⟨b+1,0,none⟩=some (.string ⟨#[32]⟩):=Ab vb1 0;have d2:V.frozen? ⟨b,0,none⟩=false:=Ap vb0 0;have hl0:lenAt b x1=R.size:=by unfold lenAt;rw[cs2]
    clear cs2 fz' cp' cv' hJk
    gi_wp2
    rw[HX2.out];refine⟨⟨k+1,oM,Lg vb0 _,(Bg oM).trans vb1,(Bg oM).trans vb2,hJ.2 _ _ _ hJ'⟩,?_⟩;rw[hl0];unfold lenAt;rw[Ab (Lg vb0 _)];exact HL.out
   ·gi_wp2
    refine bodyPost_ret (results_none rfl _ _ _) rfl ?_;exact⟨⟨_,rfl⟩,.inr ⟨B3.take (k+1),List.take_prefix _ _,hJx'⟩⟩
  ·have hk9:k=19:=by omega
   subst hk9
   obtain⟨R,hRR⟩:∃ R:ByteArray,R=⟨(Ie 19).toArray⟩:=⟨_,rfl⟩
   have hX:Kv (B3.getD 19 [])= .string R:=by rw[← Ss.2,hRR];rfl
   have hY1:=hY (B3.take 19) (B3.getD 19 []) wr hJk dC;rw[hX,show B3.take 19++[B3.getD 19 []]=B3 from by decide] at hY1;obtain⟨fn,tmps,assign,body,hy,hR⟩:=hY1;have hix:=Tryz.strings_Index_one R 32 wr;have i1':Lib.indexByte R.data.toList 32 = -1:=by rw[hRR];exact Ss.1
   rw[i1'] at hix;have cs2:wr.cell? ⟨b,0,none⟩=some (.string R):=by rw[cs',hRR];rfl
   clear i1' hX hRR cs' hY
   gi_wp2_with (refine⟨trivial,?_⟩;gi_at_call 124;refine(callsIn_wide.2 hix).mono ?_;rintro e x1 ⟨rfl,rfl⟩)
   refine hR.mono ?_;rintro e V (⟨rfl,hJ',hk'⟩| ⟨rfl,hJx'⟩)
   ·gi_wp2
    go_end0
    exact⟨⟨_,rfl⟩,.inl ⟨B3,rfl,hJ'⟩⟩
   ·gi_wp2
    go_end0
    exact⟨⟨_,rfl⟩,.inr ⟨B3,List.prefix_refl _,hJx'⟩⟩
end
section
open Go.RowKit Go.Shelf
attribute [local go_sem] Oper.semAt_some
def N7(p s:LB):Bool:=p.isPrefixOf s
theorem Qd(s p:ByteArray)(_hs:s.size≤1000000)(w:World):
  Calls prog 137 #[.string s,.string p] w fun e w'=>e = .returned (.bool (N7 p.data.toList s.data.toList))∧w=w':=by
 have hi:=pfx_iff s p.data.toList;rw[Bu] at hi;have hb:N7 p.data.toList s.data.toList=true↔p.size≤s.size∧((s.extract 0 p.size).toList==p.data.toList)=true:=by unfold N7;rw[List.isPrefixOf_iff_prefix];exact hi
 by_cases hl:p.size≤s.size
 ·have l1:decide ((p.size:Int)≤(s.size:Int))=true:=decide_eq_true oM;have l2:(p.size:Int)≤(s.size:Int):=by omega
  have he:N7 p.data.toList s.data.toList=((s.extract 0 p.size).toList==p.toList):=by
   rw[Bool.eq_iff_iff,hb,ByteArray.toList_eq p];exact⟨fun h=>h.2,fun h=>⟨hl,h⟩⟩
  rw[he];clear hb hi he;go_enter func137,ntmps137;exact qq104
 ·have l1:decide ((p.size:Int)≤(s.size:Int))=false:=decide_eq_false oM;have l2:¬ (p.size:Int)≤(s.size:Int):=by omega
  have he:N7 p.data.toList s.data.toList=false:=by rw[Bool.eq_false_iff];intro h;exact hl (hb.1 h).1
  rw[he];clear hb hi he;go_enter func137,ntmps137;exact qq104
theorem S7(s p:ByteArray)(hs:s.size≤1000000)(w:World):
  Calls prog 106 #[.string s,.string p] w fun e w'=>e = .returned (.bool (N7 p.data.toList s.data.toList))∧w=w':=by
 have c:=Hz (Qd s p hs w);go_enter func106,ntmps106;go_wp2_with fail;refine c.out.mono ?_;rintro e x1 ⟨rfl,rfl⟩;go_wp2_with fail;go_ret;exact qq288
def seqW(w:World)(s sep:ByteArray):World:=((w.alloc (.cells #[.string s] 9)).alloc (.cells #[.string sep] 9)).alloc (.cells #[vI 0] 3)
theorem Vt(s sep:ByteArray)(w:World):
  Calls prog 136 #[.string s,.string sep,vI 0] w fun e w'=>e = .returned (.func (.func 159) #[] #[.pointer (some ⟨w.heap.size+1,0,none⟩),.pointer (some ⟨w.heap.size,0,none⟩),.pointer (some ⟨w.heap.size+2,0,none⟩)])∧w'=seqW w s sep:=by
 go_enter func136,ntmps136;exact qq104
theorem Uz(s sep:ByteArray)(w:World):
  Calls prog 105 #[.string s,.string sep] w fun e w'=>e = .returned (.func (.func 159) #[] #[.pointer (some ⟨w.heap.size+1,0,none⟩),.pointer (some ⟨w.heap.size,0,none⟩),.pointer (some ⟨w.heap.size+2,0,none⟩)])∧w'=seqW w s sep:=by
 go_enter func105,ntmps105;go_wp2_with fail;refine(Vt s sep w).mono ?_;rintro e x1 ⟨rfl,rfl⟩;go_wp2_with fail;go_ret;exact qq288
theorem Io{A B:World}{row:Option Nat}{k:Nat}{cs:Array Value}{T:TypeId}{fr:Nat×Nat}(h:A.heap[k]?=some (.cells cs T fr))(hg:A.grownBy B row)(hr:∀ r,row=some r→∃ o:Obj,A.heap[r]?=some o∧o.isCells=false):B.heap[k]?=some (.cells cs T fr):=by
 refine(hg.block k (Array.getElem?_eq_some_iff.1 h).1 ?_).trans h;intro e;obtain⟨o,ho,hc⟩:=hr k e.symm;rw[h] at ho;cases ho;cases hc
theorem find_last{p:LB→Bool}{l pre:List LB}{x:LB}(hp:pre++[x] <+: l)(hn:∀ y ∈ pre,p y=false)(hx:p x=true):l.find? p=some x:=by
 exact qq279
theorem five_heap(w:World)(o1 o2 o3 o4 o5:Obj):let W0:=((((w.alloc o1).alloc o2).alloc o3).alloc o4).alloc o5
  W0.heap[w.heap.size]?=some o1∧W0.heap[w.heap.size+1]?=some o2∧W0.heap[w.heap.size+1+1]?=some o3∧W0.heap[w.heap.size+1+1+1]?=some o4∧W0.heap[w.heap.size+1+1+2]?=some o5∧Below w.heap.size w W0:=by
 have n1:=World.alloc_heap_new w o1;have n2:=World.alloc_heap_new (w.alloc o1) o2;have n3:=World.alloc_heap_new ((w.alloc o1).alloc o2) o3;have n4:=World.alloc_heap_new (((w.alloc o1).alloc o2).alloc o3) o4;have n5:=World.alloc_heap_new ((((w.alloc o1).alloc o2).alloc o3).alloc o4) o5;simp only[World.size_alloc] at n2 n3 n4 n5;have old:∀ (V:World) (o:Obj) (k:Nat),k<V.heap.size→(V.alloc o).heap[k]?=V.heap[k]?:=fun V o k h=>Below.heap_alloc V o k h
 refine⟨?_,?_,?_,?_,n5,?_⟩
 ·rw[old _ _ _ (by simp only[World.size_alloc];omega),old _ _ _ (by simp only[World.size_alloc];omega),old _ _ _ (by simp only[World.size_alloc];omega),old _ _ _ (by simp only[World.size_alloc];omega)];exact n1
 ·rw[old _ _ _ (by simp only[World.size_alloc];omega),old _ _ _ (by simp only[World.size_alloc];omega),old _ _ _ (by simp only[World.size_alloc];omega)];exact n2
 ·rw[old _ _ _ (by simp only[World.size_alloc];omega),old _ _ _ (by simp only[World.size_alloc];omega)];exact n3
 ·rw[old _ _ _ (by simp only[World.size_alloc];omega)];exact n4
 ·exact(((((Below.refl _ w).alloc (Nr' _) _).alloc (by simp only[World.size_alloc];omega) _).alloc (by simp only[World.size_alloc];omega) _).alloc (by simp only[World.size_alloc];omega) _).alloc (by simp only[World.size_alloc];omega) _
def L0(l:LB):LB:=(B3.find? (fun x=>N7 x l)).getD []
theorem So(s:ByteArray)(hs:s.size≤1000000)(w:World):
  Calls prog 65 #[.string s] w fun e w'=>e = .returned (.string ⟨(L0 s.data.toList).toArray⟩)∧Below w.heap.size w w':=by
 refine(callsIn_wide (n:=3)).1 ?_;refine callsIn_of_wp_marks func65 rfl trivial ?_ rfl;simp only[ntmps65,List.size_toArray,Lc',Ln',Nat.reduceAdd,Nat.reduceSub,Array.replicate_succ,Array.replicate_zero,List.push_toArray,List.append_toArray,List.nil_append,Lp']
 gi_wp2_with (refine⟨trivial,?_⟩;gi_at_call 105;refine(callsIn_wide.2 (Uz _ _ _)).mono ?_;rintro e x1 ⟨rfl,rfl⟩)
 generalize hsv:(ByteArray.mk #[45,62,32,58,61,32,38,38,32,124,124,32,40,32,41,32,123,32,125,32,61,32,59,32,44,32,46,32,124,32,43,32,45,32,42,32,47,32,37,32,60,32,33])=sv at *
 obtain⟨W0,hW0⟩:∃ W0,seqW ((w.alloc (.cells #[.string s] 9)).alloc (.cells #[vE] 9)) sv ⟨#[32]⟩=W0:=⟨_,rfl⟩
 rw[hW0];have z0:W0.heap.size=w.heap.size+5:=by rw[← hW0];simp only[seqW,World.size_alloc]
 have hf:=five_heap w (.cells #[.string s] 9) (.cells #[vE] 9) (.cells #[.string sv] 9) (.cells #[.string ⟨#[32]⟩] 9) (.cells #[vI 0] 3);simp only at hf;unfold seqW at hW0;rw[hW0] at hf;obtain⟨b0,b1,b2',b3,b4,bw⟩:=hf;have hsv2:sv=⟨Sr.toArray⟩:=by rw[← hsv];rfl
 have b2:W0.heap[w.heap.size+1+1]?=some (.cells #[Kv Sr] 9 (0,0)):=by rw[b2',hsv2];rfl
 clear hsv hsv2 b2'
 refine range_cell (F:=Fence.wide) (n:=3) rfl dC (gf:=159) (lb:=#[.pointer (some ⟨w.heap.size+1+1+1,0,none⟩),.pointer (some ⟨w.heap.size+1+1,0,none⟩),.pointer (some ⟨w.heap.size+1+1+2,0,none⟩)]) rfl trivial (enters_of func159 kR rfl)
  (encs:=fun x:LB=>#[Kv x]) (S:=fun xs=>xs=B3) (Sp:=fun pre=>pre <+: B3) (N:=20) (Bs:=w.heap.size+1+1) oM
  (split_in 2 dC (w.heap.size+1+1) W0.heap.size oM W0 b2 b3 b4) (fun _=>rfl)
  (fun pre W=>W.heap[w.heap.size]?=some (.cells #[.string s] 9 (0,0))∧W.heap[w.heap.size+1]?=some (.cells #[vE] 9 (0,0))∧Below w.heap.size w W∧∀ y ∈ pre,N7 y s.data.toList=false)
  (fun pre W=>∃ pre' x,pre=pre'++[x]∧(∀ y ∈ pre',N7 y s.data.toList=false)∧N7 x s.data.toList=true∧W.heap[w.heap.size+1]?=some (.cells #[Kv x] 9 (0,0))∧Below w.heap.size w W)
  (fun pre A B row hs hg hr=>⟨Io hs.1 hg (fun r e=>(hr r e).2),Io hs.2.1 hg (fun r e=>(hr r e).2),hs.2.2.1.grown hg hs.2.2.1.size (fun k e=>by have:=(hr k e).1;omega),hs.2.2.2⟩)
  (fun pre A v hs=>⟨(Bg oM).trans hs.1,(Bg oM).trans hs.2.1,hs.2.2.1.setCell (p:=⟨w.heap.size+1+1,0,none⟩) (by show w.heap.size≤w.heap.size+1+1;omega) _,hs.2.2.2⟩)
  (fun pre A B row hs hg hr=>by
   obtain⟨pre',x,e,h1,h2,h3,h4⟩:=hs
   exact⟨pre',x,e,h1,h2,Io h3 hg (fun r e=>(hr r e).2),h4.grown hg h4.size (fun k e=>by have:=(hr k e).1;omega)⟩)
  (fun pre A v hs=>by
   obtain⟨pre',x,e,h1,h2,h3,h4⟩:=hs
   exact⟨pre',x,e,h1,h2,(Bg oM).trans h3,h4.setCell (p:=⟨w.heap.size+1+1,0,none⟩) (by show w.heap.size≤w.heap.size+1+1;omega) _⟩)
  ⟨b0,b1,bw,fun _ h=>by cases h⟩
  (fun x=>{ tmps:=#[.string s,.pointer (some ⟨w.heap.size,0,none⟩),.pointer (some ⟨w.heap.size+1,0,none⟩),Kv x,.func (.func 159) #[] #[.pointer (some ⟨w.heap.size+1+1+1,0,none⟩),.pointer (some ⟨w.heap.size+1+1,0,none⟩),.pointer (some ⟨w.heap.size+1+1+2,0,none⟩)],Kv x,undef,undef,undef,undef],defers:=[] }) ?assign ?body ?done ?stop
 case assign =>
  intro l x W K hK
  gi_wp2
  exact hK
 case body =>
  rintro l pre x W ⟨h0,h1,h2,h3⟩ _;have c0:W.cell? ⟨w.heap.size,0,none⟩=some (.string s):=Ab h0 0;have f1:W.frozen? ⟨w.heap.size+1,0,none⟩=false:=Ap h1 0;have d1:W.cell? ⟨w.heap.size+1,0,none⟩=some (vE):=Ab h1 0;have hp:=S7 s ⟨x.toArray⟩ hs W;have ex:N7 (ByteArray.mk x.toArray).data.toList s.data.toList=N7 x s.data.toList:=rfl;rw[ex] at hp;unfold Kv
  cases hx:N7 x s.data.toList with
  | true =>
   rw[hx] at hp;clear ex
   gi_wp2_with (refine⟨trivial,?_⟩;gi_at_call 106;refine(CallsIn.inRound l (callsIn_wide.2 hp)).mono ?_;rintro e x1 ⟨rfl,rfl⟩)
   exact⟨KeepsOthers.setCell _ _ _,pre,x,⟨rfl,rfl⟩,h3,hx,Lg h1 _,h2.setCell (p:=⟨w.heap.size+1,0,none⟩) (by show w.heap.size≤w.heap.size+1;omega) _⟩
  | false =>
   rw[hx] at hp;clear ex
   gi_wp2_with (refine⟨trivial,?_⟩;gi_at_call 106;refine(CallsIn.inRound l (callsIn_wide.2 hp)).mono ?_;rintro e x1 ⟨rfl,rfl⟩)
   refine⟨KeepsOthers.refl _,Below.refl _ _,fun y hy=>?_⟩;rcases hy with hy|rfl
   ·exact h3 y hy
   ·exact hx
 case done =>
  rintro D xs W hD rfl ⟨h0,h1,h2,h3⟩ hK
  have hr:L0 s.data.toList=[]:=by
   unfold L0;rw[List.find?_eq_none.2 (fun y hy=>by simp[h3 y hy])];rfl
  have f1:W.frozen? ⟨w.heap.size+1,0,none⟩=false:=Ap h1 0;have d1:W.cell? ⟨w.heap.size+1,0,none⟩=some (vE):=Ab h1 0
  gi_wp2
  have hK':=(KeepsOthers.setCell W ⟨w.heap.size+1,0,none⟩ (vE)).same D _ hK rfl;refine⟨sM,.inl ⟨_,_,rfl,run_takeDeferred hK',?_⟩⟩;have hc5:=cell_kept (World.cell?_setCell_same' W ⟨w.heap.size+1,0,none⟩ (vE) (by rw[d1];rfl)) (grownBy_putObj' _ D (.deferred none)) (fun r e=>by cases e;exact⟨_,hK',rfl⟩);refine⟨vE,?_,by rw[hr],?_⟩
  ·simp[results,Tryz.f65,go_sem,hc5]
  ·exact(h2.setCell (p:=⟨w.heap.size+1,0,none⟩) (by show w.heap.size≤w.heap.size+1;omega) _).grown (grownBy_putObj' _ D (.deferred none)) (h2.setCell (p:=⟨w.heap.size+1,0,none⟩) (by show w.heap.size≤w.heap.size+1;omega) (vE)).size (fun k e=>by cases e;omega)
 case stop =>
  rintro D pre W hD hp ⟨pre',x,rfl,h1,h2,h3,h4⟩ hK
  have hr:L0 s.data.toList=x:=by
   unfold L0;rw[find_last hp h1 h2];rfl
  have d1:W.cell? ⟨w.heap.size+1,0,none⟩=some (Kv x):=Ab h3 0
  gi_wp2
  refine⟨sM,.inl ⟨_,_,rfl,run_takeDeferred hK,?_⟩⟩;have hc5:=cell_kept d1 (grownBy_putObj' _ D (.deferred none)) (fun r e=>by cases e;exact⟨_,hK,rfl⟩);refine⟨Kv x,?_,by rw[hr];rfl,?_⟩
  ·simp[results,Tryz.f65,go_sem,hc5]
  ·exact h4.grown (grownBy_putObj' _ D (.deferred none)) h4.size (fun k e=>by cases e;omega)
end
def Gg(k:Int)(a0:Nat)(t:LB)(n:Int):Value:=.agg #[vI k,vI a0,vS t,vI n]
def Nr(r:Except Int (Int×List UInt8×Int×Nat))(a0 b0:Nat)(e:Ending):Prop:=match r with
 | .ok (k,t,n,m)=>e = .returned (.tuple #[Gg k a0 t n,vI ((b0+m:Nat):Int),vI 0])
 | .error er=>∃ (k:Int) (a:Nat) (t:LB) (n v2:Int),e = .returned (.tuple #[Gg k a t n,vI v2,vI er])
theorem Ip{er:Int}{a0 b0:Nat}{k:Int}{a:Nat}{t:LB}{n v2:Int}{e:Ending}(h:e = .returned (.tuple #[Gg k a t n,vI v2,vI er])):Nr (.error er) a0 b0 e:=⟨k,a,t,n,v2,h⟩
theorem Fq(s:ByteArray)(h:0<s.size):s.data.toList=s[0]::s.data.toList.drop 1:=by
 have:=Dz s 0 h;simpa using this
theorem Ar{x:World}{B:Nat}{T:TypeId}{a b c d:Value}(h:x.heap[B]?=some (.cells #[a,b,c,d] T (0,0))):
  x.cell? ⟨B,0,none⟩=some a∧x.cell? ⟨B,1,none⟩=some b∧x.cell? ⟨B,2,none⟩=some c∧x.cell? ⟨B,3,none⟩=some d∧x.frozen? ⟨B,0,none⟩=false∧x.frozen? ⟨B,1,none⟩=false∧x.frozen? ⟨B,2,none⟩=false∧x.frozen? ⟨B,3,none⟩=false :=
 ⟨Ab h 0,Ab h 1,Ab h 2,Ab h 3,Ap h 0,Ap h 1,Ap h 2,Ap h 3⟩
theorem L9{x:World}{B:Nat}{T:TypeId}{a b c d:Value}(h:x.heap[B]?=some (.cells #[a,b,c,d] T (0,0)))(p q r t:Value):
  ((((x.setCell ⟨B,0,none⟩ p).setCell ⟨B,1,none⟩ q).setCell ⟨B,2,none⟩ r).setCell ⟨B,3,none⟩ t).heap[B]?=some (.cells #[p,q,r,t] T (0,0)):=by
 exact qq272
theorem Fr.store4{w x:World}{B:Nat}(h:Fr [] w x)(hB:w.heap.size=B)(p q r t:Value):Fr [] w ((((x.setCell ⟨B,0,none⟩ p).setCell ⟨B,1,none⟩ q).setCell ⟨B,2,none⟩ r).setCell ⟨B,3,none⟩ t):=by
 refine Fr.of_below ((((h.below0.setCell (p:=⟨B,0,none⟩) ?_ p).setCell (p:=⟨B,1,none⟩) ?_ q).setCell (p:=⟨B,2,none⟩) ?_ r).setCell (p:=⟨B,3,none⟩) ?_ t)
 all_goals(show w.heap.size≤B;omega)
theorem nn198(h:p:=by
 have kqq185:=@Hz _ @nn385;exact qq185):p:=h
theorem nn199(h:p:=by
 have kqq185:=@Hz _ @nn384;exact qq185):p:=h
theorem nn384(h:p:=by
 have gz:=L9 g (vI 6) (vI 0) (vS X) (vI 0);have fz:=ff.store4 hB (vI 6) (vI 0) (vS X) (vI 0);clear h0 g;go_wp2_with fail;generalize (((x2.setCell ⟨B,0,none⟩ (vI 6)).setCell ⟨B,1,none⟩ (vI 0)).setCell ⟨B,2,none⟩ (vS X)).setCell ⟨B,3,none⟩ (vI 0)=Z at gz fz ⊢;obtain⟨d0,d1,d2,d3,_⟩:=Ar gz;refine bodyPost_ret (v:=.tuple #[Gg 6 0 X 0,vI ((0+X.length:Nat):Int),vI 0]) ?_ rfl ?_
 ·exact qq127
 ·exact⟨rfl,fz⟩):p:=h
theorem nn385(h:p:=by
 have gz:=L9 g (vI 1) (vI 0) (vS X) (vI 0);have fz:=ff.store4 hB (vI 1) (vI 0) (vS X) (vI 0);clear h0 g;go_wp2_with fail;generalize (((x2.setCell ⟨B,0,none⟩ (vI 1)).setCell ⟨B,1,none⟩ (vI 0)).setCell ⟨B,2,none⟩ (vS X)).setCell ⟨B,3,none⟩ (vI 0)=Z at gz fz ⊢;obtain⟨d0,d1,d2,d3,_⟩:=Ar gz;refine bodyPost_ret (v:=.tuple #[Gg 1 0 X 0,vI ((0+X.length:Nat):Int),vI 0]) ?_ rfl ?_
 ·exact qq127
 ·exact⟨rfl,fz⟩):p:=h
theorem nn515(h:p:=by
 have hrl:=Kl s.data.toList;rw[Bu] at hrl;have cw:=fun w hE=>Hz (Qy ⟨(Cy s.data.toList).toArray⟩ (by show(Cy s.data.toList).length≤1000000;omega) w hE)
 have cr:=fun w=>Hz (Nb s oM w)
 clear ht h1
 generalize Cy s.data.toList=X at *
 cases hw:D8 X with
 | true =>
  have hw2:D8 (ByteArray.mk X.toArray).data.toList=true:=hw;rw[if_pos rfl];have kqq73:=@Hz _ @nn199
  exact qq73
 | false =>
  have hw2:D8 (ByteArray.mk X.toArray).data.toList=false:=hw;rw[if_neg Bool.false_ne_true];have kqq73:=@Hz _ @nn198;exact qq73):p:=h
theorem one_small(s:ByteArray)(hs:s.size≤1000000)(hp:0<s.size)(h1:Ef s[0]=true)(w:World)(hE:E1 w):
  Calls prog 29 #[.string s] w fun e w'=>Nr (tok s.data.toList) 0 0 e∧Fr [] w w':=by
 have ht:tok s.data.toList = .ok (if D8 (Cy s.data.toList)=true then 6 else 1,Cy s.data.toList,0,(Cy s.data.toList).length):=by
  rw[Fq s hp,tok,if_pos h1]
 rw[ht];have hsm:=Dl s[0];rw[h1] at hsm;have kqq256:=@Hz _ @nn515;exact qq256
theorem nn44(h:p:=by
 refine(cr _).out.mono ?_;rintro e x1 ⟨rfl,f1⟩;have kqq298:=@Hz _ @nn558;exact qq298):p:=h
theorem nn514(h:p:=by
 have hrl:=Kl s.data.toList;rw[Bu] at hrl;have cr:=fun w=>Hz (Nb s oM w)
 clear ht h1 h2
 generalize Cy s.data.toList=X at *
 have kqq13:=@Hz _ @nn44;exact qq13):p:=h
theorem nn558(h:p:=by
 have gz:=L9 g (vI 2) (vI 0) (vS X) (vI 0);have fz:=ff.store4 hB (vI 2) (vI 0) (vS X) (vI 0);clear h0 g;go_wp2_with fail;generalize (((x1.setCell ⟨B,0,none⟩ (vI 2)).setCell ⟨B,1,none⟩ (vI 0)).setCell ⟨B,2,none⟩ (vS X)).setCell ⟨B,3,none⟩ (vI 0)=Z at gz fz ⊢;obtain⟨d0,d1,d2,d3,_⟩:=Ar gz;refine bodyPost_ret (v:=.tuple #[Gg 2 0 X 0,vI ((0+X.length:Nat):Int),vI 0]) ?_ rfl ?_
 ·exact qq127
 ·exact⟨rfl,fz⟩):p:=h
theorem one_great(s:ByteArray)(hs:s.size≤1000000)(hp:0<s.size)(h1:Ef s[0]=false)(h2:C8 s[0]=true)(w:World)(_hE:E1 w):
  Calls prog 29 #[.string s] w fun e w'=>Nr (tok s.data.toList) 0 0 e∧Fr [] w w':=by
 have ht:tok s.data.toList = .ok (2,Cy s.data.toList,0,(Cy s.data.toList).length):=by
  rw[Fq s hp,tok,if_neg (by simp[h1]),if_pos h2]
 rw[ht];have hsm:=Dl s[0];have hgr:=Dk s[0];rw[h1] at hsm;rw[h2] at hgr;have kqq256:=@Hz _ @nn514;exact qq256
theorem nn43(h:p:=by
 refine(Da _ _).mono ?_;rintro e x1 ⟨rfl,rfl⟩;go_wp2_with fail;refine(CR _).out.mono ?_;rintro e x1 ⟨rfl,f1⟩;have kqq298:=@Hz _ @nn559;exact qq298):p:=h
theorem nn513(h:p:=by
 have wv1:wrap32 ((s[1].toNat:Nat):Int)=((s[1].toNat:Nat):Int):=by have:=s[1].toNat_lt;unfold wrap32;omega
 have hrl:=Kl (s.data.toList.drop 1);rw[Eq] at hrl;have cr:=fun w=>Nb (s.extract 1 s.size) (by rw[show(s.extract 1 s.size).size=s.size-1 by simp];omega) w
 rw[Lib.extract_to_end s 1] at cr;have CR:=fun w=>Hz (cr w)
 clear ht h1 h2 hr cr
 generalize Cy (s.data.toList.drop 1)=X at *
 have kqq13:=@Hz _ @nn43;exact qq13):p:=h
theorem nn559(h:p:=by
 have gz:=L9 g (vI 3) (vI 0) (vS X) (vI 0);have fz:=ff.store4 hB (vI 3) (vI 0) (vS X) (vI 0);clear h0 g;go_wp2_with fail;generalize (((x1.setCell ⟨B,0,none⟩ (vI 3)).setCell ⟨B,1,none⟩ (vI 0)).setCell ⟨B,2,none⟩ (vS X)).setCell ⟨B,3,none⟩ (vI 0)=Z at gz fz ⊢;obtain⟨d0,d1,d2,d3,_⟩:=Ar gz;refine bodyPost_ret (v:=.tuple #[Gg 3 0 X 0,vI ((0+(1+X.length):Nat):Int),vI 0]) ?_ rfl ?_
 ·exact qq127
 ·exact⟨rfl,fz⟩):p:=h
theorem one_tag(s:ByteArray)(hs:s.size≤1000000)(hp:0<s.size)(h1:s[0]=35)(hp2:1<s.size)(h2:C8 s[1]=true)(w:World)(_hE:E1 w):
  Calls prog 29 #[.string s] w fun e w'=>Nr (tok s.data.toList) 0 0 e∧Fr [] w w':=by
 have hr:s.data.toList.drop 1=s[1]::s.data.toList.drop 2:=Dz s 1 hp2
 have ht:tok s.data.toList = .ok (3,Cy (s.data.toList.drop 1),0,1+(Cy (s.data.toList.drop 1)).length):=by
  rw[Fq s hp,tok,if_neg (by rw[h1];decide),if_neg (by rw[h1];decide),if_pos ⟨h1,by rw[hr];simpa using h2⟩];rfl
 rw[ht];have hsm:Jk ((s[0].toNat:Nat):Int)=false:=by rw[Dl,h1];decide
 have hg0:Jf ((s[0].toNat:Nat):Int)=false:=by rw[Dk,h1];decide
 have e35:((s[0].toNat:Nat):Int)=35:=by rw[h1];rfl
 have b35:(((s[0].toNat:Nat):Int)==35)=true:=by rw[h1];rfl
 have hgr:=Dk s[1];rw[h2] at hgr;have l1:1<(s.size:Int):=by omega
 have kqq256:=@Hz _ @nn513;exact qq256
theorem Ya(l:LB):Ft l=0∨Ft l=2∨Ft l=5:=by
 unfold Ft;split
 ·split
  ·exact .inl rfl
  ·exact .inr (.inl rfl)
 ·exact .inr (.inr rfl)
theorem nn40(h:p:=by
 have kqq49:=@Hz _ @nn152;exact qq49):p:=h
theorem nn41(h:p:=by
 have kqq49:=@Hz _ @nn151;exact qq49):p:=h
theorem nn42(h:p:=by
 have kqq49:=@Hz _ @nn150;exact qq49):p:=h
theorem nn150(h:p:=by
 refine bodyPost_ret (v:=.tuple #[Gg 4 0 ([]:LB) (Dy X),vI ((0+X.length:Nat):Int),vI 0]) ?_ rfl ?_
 ·exact qq127
 ·exact⟨rfl,fz⟩):p:=h
theorem nn151(h:p:=by
 refine bodyPost_ret (v:=.tuple #[Gg 4 0 ([]:LB) (Dy X),vI ((0+X.length:Nat):Int),vI 2]) ?_ rfl ?_
 ·exact qq127
 ·exact⟨Ip rfl,fz⟩):p:=h
theorem nn152(h:p:=by
 refine bodyPost_ret (v:=.tuple #[Gg 4 0 ([]:LB) (Dy X),vI ((0+X.length:Nat):Int),vI 20]) ?_ rfl ?_
 ·exact qq127
 ·exact⟨Ip rfl,fz⟩):p:=h
theorem nn512(h:p:=by
 have hrl:=Kl s.data.toList;rw[Bu] at hrl;have cr:=fun w=>Hz (Nb s oM w)
 have cd:=fun w hE=>Hz (Read_any ⟨(Cy s.data.toList).toArray⟩ (by show(Cy s.data.toList).length≤281474976710656;omega) w hE)
 have hcase:=Ya (Cy s.data.toList);clear ht h1 n1 n2 n3 hd
 generalize Cy s.data.toList=X at *
 rcases hcase with hc|hc|hc
 ·have hc2:Ft (ByteArray.mk X.toArray).data.toList=0:=hc;rw[if_pos hc];have kqq13:=@Hz _ @nn42;exact qq13
 ·have hc2:Ft (ByteArray.mk X.toArray).data.toList=2:=hc;rw[if_neg oM,if_neg oM,hc];have kqq13:=@Hz _ @nn41;exact qq13
 ·have hc2:Ft (ByteArray.mk X.toArray).data.toList=5:=hc;rw[if_neg oM,if_pos hc];have kqq13:=@Hz _ @nn40;exact qq13):p:=h
theorem one_digit(s:ByteArray)(hs:s.size≤1000000)(hp:0<s.size)(h1:De s[0]=true)(w:World)(hE:E1 w):
  Calls prog 29 #[.string s] w fun e w'=>Nr (tok s.data.toList) 0 0 e∧Fr [] w w':=by
 have hd:=(Hn s[0]).1 h1;have n1:Ef s[0]=false:=by rw[← Dl,Bool.eq_false_iff];intro h;simp[Jk] at h;omega
 have n2:C8 s[0]=false:=by rw[← Dk,Bool.eq_false_iff];intro h;simp[Jf] at h;omega
 have n3:s[0]≠35:=by intro h;rw[h] at hd;exact absurd hd dC
 have ht:tok s.data.toList=(if Ft (Cy s.data.toList)=0 then .ok (4,[],Dy (Cy s.data.toList),(Cy s.data.toList).length)else .error (if Ft (Cy s.data.toList)=5 then 20 else Ft (Cy s.data.toList))):=by
  rw[Fq s hp,tok,if_neg (by simp[n1]),if_neg (by simp[n2]),if_neg (fun h=>n3 h.1),if_pos h1]
 rw[ht];have hsm:=Dl s[0];have hgr:=Dk s[0];have hdg:=Fw s[0];rw[n1] at hsm;rw[n2] at hgr;rw[h1] at hdg;have b35:(((s[0].toNat:Nat):Int)==35)=false:=by rw[bN];omega
 have e35:¬ ((s[0].toNat:Nat):Int)=35:=by omega
 have kqq256:=@Hz _ @nn512;exact qq256
theorem tok_quote(l:LB)(r:LB)(h:l=34::r):tok l=match Vn l with
  | none => .error 20
  | some x=>match unq x with
   | none => .error 20
   | some t => .ok (5,t,0,x.length):=by
 subst h;have e0:Vn (34::r)=(Hx r).map fun k=>(34::r).take (1+k):=rfl
 rw[e0,tok,if_neg dC,if_neg dC,if_neg (fun x=>absurd x.1 dC),if_neg dC,if_pos rfl]
 cases e:Hx r with
 | none=>rfl
 | some k =>
  have hk:=q2_le r false k e;simp only[Option.map_some]
  cases unq ((34::r).take (1+k))with
  | none=>rfl
  | some t =>
   have:((34::r).take (1+k)).length=1+k:=by rw[List.length_take,Lc'];omega
   simp only[this]
theorem quoL_le{l x:LB}(h:Vn l=some x):x.length≤l.length:=by
 unfold Vn at h
 cases e:Hx (l.drop 1)with
 | none=>rw[e] at h;cases h
 | some k=>rw[e] at h;cases h;rw[List.length_take];omega
theorem nn37(h:p:=by
 refine(Ei _ _).mono ?_;rintro e x1 ⟨rfl,rfl⟩;go_wp2_with fail;refine(cq _).out.mono ?_;rintro e x1 ⟨rfl,rfl⟩;go_wp2_with fail;refine(cu _).out.mono ?_;rintro e x1 ⟨rfl,f1⟩;have kqq298:=@Hz _ @nn560;exact qq298):p:=h
theorem nn38(h:p:=by
 refine(Ei _ _).mono ?_;rintro e x1 ⟨rfl,rfl⟩;go_wp2_with fail;refine(cq _).out.mono ?_;rintro e x1 ⟨rfl,rfl⟩;go_wp2_with fail;refine(cu _).out.mono ?_;rintro e x1 ⟨rfl,f1⟩;exact qq40):p:=h
theorem nn39(h:p:=by
 refine(Ei _ _).mono ?_;rintro e x1 ⟨rfl,rfl⟩;go_wp2_with fail;refine(cq _).out.mono ?_;rintro e x1 ⟨rfl,rfl⟩;have g:=h0;obtain⟨c0,c1,c2,c3,z0,z1,z2,z3⟩:=Ar g;have ff:=f0;have gz:=L9 g (vI 0) (vI 0) (.string ⟨([]:LB).toArray⟩) (vI 0);have fz:=ff.store4 hB (vI 0) (vI 0) (.string ⟨([]:LB).toArray⟩) (vI 0);clear h0 g;go_wp2_with fail;generalize (((w1.setCell ⟨B,0,none⟩ (vI 0)).setCell ⟨B,1,none⟩ (vI 0)).setCell ⟨B,2,none⟩ (.string ⟨([]:LB).toArray⟩)).setCell ⟨B,3,none⟩ (vI 0)=Z at gz fz ⊢;exact qq177):p:=h
theorem nn511(h:p:=by
 have cq:=fun w=>Hz (quoted_any s hs w)
 clear ht h1 hv
 cases hq:Vn s.data.toList with
 | none =>
  rw[hq] at cq;simp only[Option.getD_none,Option.isSome_none] at cq ⊢;have kqq13:=@Hz _ @nn39
  exact qq13
 | some X =>
  have hx:=quoL_le hq;rw[Bu] at hx;rw[hq] at cq;simp only[Option.getD_some,Option.isSome_some] at cq ⊢;have cu:=fun w=>Hz (Wf ⟨X.toArray⟩ (by show X.length≤16777216;omega) w)
  have hxa:(ByteArray.mk X.toArray).data.toList=X:=rfl;rw[hxa] at cu;clear hq hxa
  cases hu:unq X with
  | none =>
   obtain⟨u1,u2⟩:=unq_n hu;rw[u1,u2] at cu;clear hu u1 u2;simp only;have kqq13:=@Hz _ @nn38
   exact qq13
  | some U =>
   obtain⟨u1,u2⟩:=unq_s hu;rw[u1,u2] at cu;clear hu u1 u2;simp only;have kqq13:=@Hz _ @nn37;exact qq13):p:=h
theorem nn560(h:p:=by
 have gz:=L9 g (vI 5) (vI 0) (vS U) (vI 0);have fz:=ff.store4 hB (vI 5) (vI 0) (vS U) (vI 0);clear h0 g;go_wp2_with fail;generalize (((x1.setCell ⟨B,0,none⟩ (vI 5)).setCell ⟨B,1,none⟩ (vI 0)).setCell ⟨B,2,none⟩ (vS U)).setCell ⟨B,3,none⟩ (vI 0)=Z at gz fz ⊢;obtain⟨d0,d1,d2,d3,_⟩:=Ar gz;refine bodyPost_ret (v:=.tuple #[Gg 5 0 U 0,vI ((0+X.length:Nat):Int),vI 0]) ?_ rfl ?_
 ·exact qq127
 ·exact⟨rfl,fz⟩):p:=h
theorem one_quote(s:ByteArray)(hs:s.size≤1000000)(hp:0<s.size)(h1:s[0]=34)(w:World)(_hE:E1 w):
  Calls prog 29 #[.string s] w fun e w'=>Nr (tok s.data.toList) 0 0 e∧Fr [] w w':=by
 have hv:s[0].toNat=34:=by rw[h1];rfl
 have ht:=tok_quote s.data.toList (s.data.toList.drop 1) ((Fq s hp).trans (by rw[h1]));rw[ht];have hsm:Jk ((s[0].toNat:Nat):Int)=false:=by rw[Dl,h1];decide
 have hgr:Jf ((s[0].toNat:Nat):Int)=false:=by rw[Dk,h1];decide
 have hdg:Lq ((s[0].toNat:Nat):Int)=false:=by rw[Fw,h1];decide
 have b35:(((s[0].toNat:Nat):Int)==35)=false:=by rw[bN];omega
 have e35:¬ ((s[0].toNat:Nat):Int)=35:=by omega
 have b34:(((s[0].toNat:Nat):Int)==34)=true:=by rw[beq_iff_eq];omega
 have e34:((s[0].toNat:Nat):Int)=34:=by omega
 have kqq256:=@Hz _ @nn511;exact qq256
theorem Mo{l:LB}(h:B3.find? (fun x=>x.isPrefixOf l)=none):L0 l=[]:=by unfold L0 N7;rw[h];rfl
theorem Mp{l x:LB}(h:B3.find? (fun x=>x.isPrefixOf l)=some x):L0 l=x:=by unfold L0 N7;rw[h];rfl
theorem nn251(h:p:=by
 have b35:(((s[0].toNat:Nat):Int)==35)=false:=by rw[bN];intro h;apply h3;apply UInt8.toNat_inj.1;have h9:(35:UInt8).toNat=35:=rfl;omega
 have e35:¬ ((s[0].toNat:Nat):Int)=35:=by rw[bN] at b35;exact b35
 exact qq22):p:=h
theorem one_sign(s:ByteArray)(hs:s.size≤1000000)(hp:0<s.size)(h1:Ef s[0]=false)(h2:C8 s[0]=false)(h3:s[0]≠35)(h4:De s[0]=false)(h5:s[0]≠34)(w:World)(_hE:E1 w):
  Calls prog 29 #[.string s] w fun e w'=>Nr (tok s.data.toList) 0 0 e∧Fr [] w w':=by
 have ht:tok s.data.toList=match B3.find? (fun x=>x.isPrefixOf s.data.toList)with
   | none => .error 20
   | some x => .ok (7,x,0,x.length):=by
  conv=>lhs;rw[Fq s hp]
  rw[tok,if_neg (by simp[h1]),if_neg (by simp[h2]),if_neg ?n3,if_neg (by simp[h4]),if_neg h5,← Fq s hp]
  case n3 =>
   rintro⟨x1,x2⟩;exact h3 x1
  all_goals
   exact qq198
 have kqq90:=@Hz _ @nn251;exact qq90
theorem nn250(h:p:=by
 have b35:(((s[0].toNat:Nat):Int)==35)=true:=by rw[h3];rfl
 have e35:((s[0].toNat:Nat):Int)=35:=by rw[h3];rfl
 have l1:¬ 1<(s.size:Int):=by omega
 have l2:decide (1<(s.size:Int))=false:=by simpa using l1
 exact qq22):p:=h
theorem one_hash1(s:ByteArray)(hs:s.size≤1000000)(hp:0<s.size)(h1:Ef s[0]=false)(h2:C8 s[0]=false)(h3:s[0]=35)(h6:s.size≤1)(h4:De s[0]=false)(h5:s[0]≠34)(w:World)(_hE:E1 w):
  Calls prog 29 #[.string s] w fun e w'=>Nr (tok s.data.toList) 0 0 e∧Fr [] w w':=by
 have ht:tok s.data.toList=match B3.find? (fun x=>x.isPrefixOf s.data.toList)with
   | none => .error 20
   | some x => .ok (7,x,0,x.length):=by
  conv=>lhs;rw[Fq s hp]
  rw[tok,if_neg (by simp[h1]),if_neg (by simp[h2]),if_neg ?n3,if_neg (by simp[h4]),if_neg h5,← Fq s hp]
  case n3 =>
   rintro⟨x1,x2⟩;rw[List.drop_of_length_le (by rw[Bu];exact h6)] at x2;simp at x2
  all_goals
   exact qq198
 have kqq90:=@Hz _ @nn250;exact qq90
theorem nn31(h:p:=by
 refine(Da _ _).mono ?_;rintro e x1 ⟨rfl,rfl⟩;go_wp2_with fail;exact qq51):p:=h
theorem nn32(h:p:=by
 refine(Da _ _).mono ?_;rintro e x1 ⟨rfl,rfl⟩;go_wp2_with fail;exact qq138):p:=h
theorem nn249(h:p:=by
 have b35:(((s[0].toNat:Nat):Int)==35)=true:=by rw[h3];rfl
 have e35:((s[0].toNat:Nat):Int)=35:=by rw[h3];rfl
 have l1:1<(s.size:Int):=by omega
 have hg1:=Dk s[1];rw[h7] at hg1;have wv1:wrap32 ((s[1].toNat:Nat):Int)=((s[1].toNat:Nat):Int):=by have:=s[1].toNat_lt;unfold wrap32;omega
 clear h3 h7;clear ht h1 h2 h4 h5
 cases hq:B3.find? (fun x=>x.isPrefixOf s.data.toList)with
 | none =>
  rw[Mo hq] at cs;clear hq;simp only;have kqq13:=@Hz _ @nn32
  exact qq13
 | some X =>
  have kqq137:=@Hz _ @nn340;exact qq137):p:=h
theorem nn340(h:p:=by
 have kqq13:=@Hz _ @nn31;exact qq13):p:=h
theorem one_hash2(s:ByteArray)(hs:s.size≤1000000)(hp:0<s.size)(h1:Ef s[0]=false)(h2:C8 s[0]=false)(h3:s[0]=35)(h6:1<s.size)(h7:C8 s[1]=false)(h4:De s[0]=false)(h5:s[0]≠34)(w:World)(_hE:E1 w):
  Calls prog 29 #[.string s] w fun e w'=>Nr (tok s.data.toList) 0 0 e∧Fr [] w w':=by
 have ht:tok s.data.toList=match B3.find? (fun x=>x.isPrefixOf s.data.toList)with
   | none => .error 20
   | some x => .ok (7,x,0,x.length):=by
  conv=>lhs;rw[Fq s hp]
  rw[tok,if_neg (by simp[h1]),if_neg (by simp[h2]),if_neg ?n3,if_neg (by simp[h4]),if_neg h5,← Fq s hp]
  case n3 =>
   rintro⟨x1,x2⟩;rw[Dz s 1 h6] at x2;simp[h7] at x2
  all_goals
   exact qq198
 have kqq90:=@Hz _ @nn249;exact qq90
theorem one_any(s:ByteArray)(hs:s.size≤1000000)(hp:0<s.size)(w:World)(hE:E1 w):
  Calls prog 29 #[.string s] w fun e w'=>Nr (tok s.data.toList) 0 0 e∧Fr [] w w':=by
 cases h1:Ef s[0] with
 | true=>exact one_small s hs hp h1 w hE
 | false=>cases h2:C8 s[0] with
  | true=>exact one_great s hs hp h1 h2 w hE
  | false =>
   by_cases h3:s[0]=35
   ·by_cases h6:1<s.size
    ·cases h7:C8 s[1] with
     | true=>exact one_tag s hs hp h3 h6 h7 w hE
     | false=>exact one_hash2 s hs hp h1 h2 h3 h6 h7 (by rw[h3];decide) (by rw[h3];decide) w hE
    ·exact one_hash1 s hs hp h1 h2 h3 oM (by rw[h3];decide) (by rw[h3];decide) w hE
   ·cases h4:De s[0] with
    | true=>exact one_digit s hs hp h4 w hE
    | false =>
     by_cases h5:s[0]=34
     ·exact one_quote s hs hp h5 w hE
     ·exact one_sign s hs hp h1 h2 h3 h4 h5 w hE
theorem byte_ne{c:UInt8}{n:Nat}(hn:n<256)(h:c≠UInt8.ofNat n):(((c.toNat:Nat):Int)==(n:Int))=false:=by
 rw[bN];intro h2;apply h;apply UInt8.toNat_inj.1;rw[UInt8.toNat_ofNat'];omega
def Kh(t:Tok):List Value:=[vI t.k,vI t.at',.string ⟨t.text.toArray⟩,vI t.n]
def L3(ts:List Tok):List Value:=ts.flatMap Kh
theorem Sy(ts:List Tok)(t:Tok):L3 (ts++[t])=L3 ts++Kh t:=by simp[L3]
def Qz(B:Nat)(v:Value)(ts:List Tok)(w:World):Prop:=w.ownsRow 0 52 4 v ts.length (L3 ts)∧∀ g,v.ownBlock=some g→B≤g
theorem Qz.fr{B:Nat}{v:Value}{ts:List Tok}{w w':World}(h:Qz B v ts w)(hf:Fr [] w w'):Qz B v ts w':=⟨Dv h.1 hf (fun _ _ h=>by cases h),h.2⟩
theorem Qz.nil_(B:Nat)(w:World):Qz B (vZ) [] w:=⟨⟨by simp[L3],.inl ⟨rfl,rfl⟩⟩,fun g hg=>by simp[Value.ownBlock] at hg⟩
theorem Qz.none(w:World):Qz w.heap.size (.slice (some ⟨w.heap.size,0,none⟩) 0 0) [] (w.alloc (.cells #[] 52)):=
 ⟨World.ownsRow_lit w #[] 0 (Nat.zero_le _) dC rfl,fun g hg=>by simp[Value.ownBlock] at hg;omega⟩
theorem infoTok:(prog.info? 52).map (fun i=>(i.zero,i.size,i.bytes))=some (some (.agg #[vI 0,vI 0,vE,vI 0]),4,40):=by kernel_rfl
theorem Yv(w:World)(b:Nat)(a0 a1 a2 a3:Value)(T:TypeId)(h:w.heap[b]?=some (.cells #[a0,a1,a2,a3] T (0,0))):∀ (j:Nat)(u:Value),[a0,a1,a2,a3][j]?=some u→w.cell? ((⟨b,0,Option.none⟩:Addr).add j)=some u:=by
 intro j u hj;have hc:=Ab h
 match j,hj with
 | 0,hj=>rw[show(⟨b,0,Option.none⟩:Addr).add 0=⟨b,0,Option.none⟩ by simp[Addr.add],hc];simpa using hj
 | 1,hj=>rw[show(⟨b,0,Option.none⟩:Addr).add 1=⟨b,1,Option.none⟩ by simp[Addr.add],hc];simpa using hj
 | 2,hj=>rw[show(⟨b,0,Option.none⟩:Addr).add 2=⟨b,2,Option.none⟩ by simp[Addr.add],hc];simpa using hj
 | 3,hj=>rw[show(⟨b,0,Option.none⟩:Addr).add 3=⟨b,3,Option.none⟩ by simp[Addr.add],hc];simpa using hj
 | j+4,hj=>simp at hj
def lexOk(r:Except (Int×Nat) (List Tok))(B:Nat)(e:Ending)(w':World):Prop:=match r with
 | .error (er,p)=>e = .returned (.tuple #[vZ,vI er,vI p])
 | .ok ts=>∃ v,e = .returned (.tuple #[v,vI 0,vI 0])∧Qz B v ts w'
def Im(s:ByteArray)(i:Nat):Except (Int×Nat) (List Tok):=Gq s.size i (s.data.toList.drop i)
def Mu(ts:List Tok):Except (Int×Nat) (List Tok)→Except (Int×Nat) (List Tok)
 | .error e => .error e
 | .ok ys => .ok (ts++ys)
theorem Sg(s:ByteArray)(h:s.size≤4096):Es s.data.toList=Im s 0:=by
 unfold Es Im;rw[if_neg (by rw[Bu];omega),List.drop_zero,Bu]
theorem restL_end(s:ByteArray):Im s s.size = .ok [⟨0,s.size,[],0⟩]:=by
 unfold Im;rw[List.drop_of_length_le (by rw[Bu];exact Nr' _)];cases s.size <;> rfl
theorem Yb(s:ByteArray)(i:Nat)(h:i<s.size)(hc:s[i]=32∨s[i]=10):Im s i=Im s (i+1):=by
 unfold Im;rw[Dz s i h]
 obtain⟨f,hf⟩:∃ f,s.size=f+1:=⟨s.size-1,oM⟩
 rw[My s.size s.size (f+1) (i+1) (s.data.toList.drop (i+1)) (by rw[Eq];omega) (by rw[Eq];omega) (by rw[Eq];omega),My s.size (f+1) f (i+1) (s.data.toList.drop (i+1)) (by rw[Eq];omega) (by rw[Eq];omega) (by rw[Eq];omega),hf,Gq,if_pos hc]
theorem restL_err(s:ByteArray)(i:Nat)(h:i<s.size)(hc:¬ (s[i]=32∨s[i]=10)){e:Int}(ht:tok (s.data.toList.drop i)= .error e):Im s i = .error (e,i):=by
 unfold Im;rw[Dz s i h] at ht ⊢
 obtain⟨f,hf⟩:∃ f,s.size=f+1:=⟨s.size-1,oM⟩
 rw[hf,Gq,if_neg hc,ht]
theorem restL_tok(s:ByteArray)(i:Nat)(h:i<s.size)(hc:¬ (s[i]=32∨s[i]=10)){k:Int}{t:LB}{n:Int}{m:Nat}(ht:tok (s.data.toList.drop i)= .ok (k,t,n,m))(ts:List Tok):
  Mu ts (Im s i)=Mu (ts++[⟨k,i,t,n⟩]) (Im s (i+m)):=by
 have hm:=Kp ht;rw[Eq] at hm
 have e2:Im s (i+m)=Gq (s.size-1) (i+m) (s.data.toList.drop (i+m)):=by
  unfold Im;exact My s.size _ _ _ _ (by rw[Eq];omega) (by rw[Eq];omega) (by rw[Eq];omega)
 rw[e2];unfold Im;have hd:(s.data.toList.drop i).drop m=s.data.toList.drop (i+m):=by rw[List.drop_drop]
 rw[Dz s i h] at ht hd ⊢
 obtain⟨f,hf⟩:∃ f,s.size=f+1:=⟨s.size-1,oM⟩
 rw[show Gq s.size i=Gq (f+1) i by rw[hf],Gq,if_neg hc,ht];simp only[hd];rw[show s.size-1=f by omega]
 cases Gq f (i+m) (s.data.toList.drop (i+m))with
 | error e=>rfl
 | ok ys=>simp[Mu]
theorem Uv(r:Except (Int×Nat) (List Tok)):Mu [] r=r:=by cases r <;> rfl
theorem Lex_big(s:ByteArray)(hs:s.size≤9223372036854775807)(hb:4096<s.size)(w:World):
  Calls prog 14 #[.string s] w fun e w'=>lexOk (Es s.data.toList) w.heap.size e w'∧Fr [] w w':=by
 have h0:Es s.data.toList = .error (4,0):=by unfold Es;rw[if_pos (by rw[Bu];exact hb)]
 rw[h0];go_enter func14,ntmps14;go_wp2_with fail
 go_ret3
 exact qq181
theorem Lex_small(s:ByteArray)(hs:s.size≤4096)(w:World)(hE:E1 w):
  Calls prog 14 #[.string s] w fun e w'=>lexOk (Es s.data.toList) w.heap.size e w'∧Fr [] w w':=by
 obtain⟨i0,hi,hz0,hz1,hz2⟩:=info_parts infoTok;have H0:=Hz ((Uv _).symm.trans (congrArg (Mu []) (Sg s hs)).symm).symm;have HA:Hid (Mu [] (Im s 0)=Es s.data.toList):=Hz (by rw[Uv,Sg s hs]);clear H0
 generalize Es s.data.toList=R at *
 go_enter func14,ntmps14;go_wp2_with fail
 go_loopw [5,6] (fun v i wr=>∃ (k:Nat) (ts:List Tok),k≤s.size∧i=vI k∧Qz w.heap.size v ts wr∧ts.length≤k∧Fr [] w wr∧Hid (Mu ts (Im s k)=R)) (fun _ i _=>s.size-(intOf i).toNat)
 case atStart=>exact⟨0,[],Nat.zero_le _,rfl,Qz.nil_ _ _,Nr' _,Fr.refl _ _,HA⟩
 case round =>
  obtain⟨k,ts,hk,rfl,⟨hown,hog⟩,hlen,hf,HR⟩:=hrel;clear HA;by_cases hlt:k<s.size
  ·by_cases hbl:s[k]=32∨s[k]=10
   ·have HR2:Hid (Mu ts (Im s (k+1))=R):=Hz (by rw[← Yb s k hlt hbl];exact HR.out)
    have key:(((s[k].toNat:Nat):Int)==32)=true∨((((s[k].toNat:Nat):Int)==32)=false∧(((s[k].toNat:Nat):Int)==10)=true):=by
     rcases hbl with h|h
     ·left;rw[h];rfl
     ·right;rw[h];exact⟨rfl,rfl⟩
    clear hbl
    rcases key with b1|⟨b1,b2⟩
    all_goals
     go_wp2_with fail
     go_roundw
     case rel=>exact⟨k+1,ts,oM,by go_num,⟨hown,hog⟩,oM,hf,HR2⟩
     case measure=>simp[intOf];omega
   ·have b1:(((s[k].toNat:Nat):Int)==32)=false:=byte_ne (n:=32) oM (fun h=>hbl (.inl h));have b2:(((s[k].toNat:Nat):Int)==10)=false:=byte_ne (n:=10) oM (fun h=>hbl (.inr h));have hx:(s.extract k s.size).data.toList=s.data.toList.drop k:=by rw[Lib.extract_to_end s k]
    have hxs:(s.extract k s.size).size=s.size-k:=by rw[← Bu,hx,Eq]
    have c1:=fun w hE=>Hz (one_any (s.extract k s.size) oM oM w hE)
    rw[hx] at c1;have hEr:=hE.fr hf;clear hx hxs
    cases ht:tok (s.data.toList.drop k)with
    | error er =>
     have hR:=Hz (HR.out.symm.trans (congrArg (Mu ts) (restL_err s k hlt hbl ht)));have her:¬ er=0:=by rcases Ys ht with h|h <;> omega
     rw[ht] at c1;clear ht hbl HR;go_wp2_with fail;refine(c1 _ hEr).out.mono ?_;rintro e x1 ⟨⟨ek,ea,et,en,v2,rfl⟩,f1⟩;unfold Gg;go_wp2_with fail
     go_ret3
     refine⟨?_,(hf.trans f1).alloc _⟩;rw[hR.out]
     exact rfl
    | ok x =>
     obtain⟨kd,tx,n,m⟩:=x;have hm:=Kp ht;rw[Eq] at hm;have HR2:Hid (Mu (ts++[⟨kd,k,tx,n⟩]) (Im s (k+m))=R):=Hz (by rw[← restL_tok s k hlt hbl ht];exact HR.out);rw[ht] at c1;clear ht hbl HR;go_wp2_with fail;refine(c1 _ hEr).out.mono ?_;rintro e x1 ⟨he,f1⟩;have he:e = .returned (.tuple #[Gg kd 0 tx n,vI ((0+m:Nat):Int),vI 0]):=he;rw[Nat.zero_add] at he;subst he;unfold Gg;have hown1:=Dv hown f1 (fun _ _ h=>by cases h);go_wp2_with (at_builtin;refine D2 _ rfl _ _ 44 rfl 52 i0 _ 4 40 underlying44 hi hz0 hz1 hz2 rfl dC _ _ _ rfl ((hown1.alloc _).alloc _) ⟨x1.heap.size+1,0,none⟩ 1 1 [vI kd,vI k,vS tx,vI n] rfl rfl ?c1 ?c2 ?c3 ?c4 ?_)
     case c1 =>
      refine Yv _ _ _ _ _ _ 52 ?_;have:=Ag (x1.alloc (.cells #[vI kd,vI k,vS tx,vI n] 52)) (.cells #[vI kd,vI k,vS tx,vI n] 52);rw[World.size_alloc] at this;exact this
     case c2=>intro u hu;simp at hu;rcases hu with rfl|rfl|rfl|rfl <;> rfl
     case c3=>unfold maxLen;omega
     case c4=>omega
     intro v' w2 hown2 hgrow hfp;have hf2:Fr [] w w2:=(((hf.trans f1).alloc _).alloc _).append hgrow (fun g hg => .inr (hog g hg))
     have hog2:∀ g,v'.ownBlock=some g→w.heap.size≤g:=fun g hg=>by
      rcases hfp g hg with h|h
      ·exact hog g h
      ·have:=hf.size;have:=f1.size;(try simp only[World.size_alloc] at h);omega
     have hown3:w2.ownsRow 0 52 4 v' (ts++[(⟨kd,k,tx,n⟩:Tok)]).length (L3 (ts++[(⟨kd,k,tx,n⟩:Tok)])):=by
      rw[Sy,La'];exact hown2
     clear hown2 hgrow hfp hown1 hown;go_wp2_with fail
     go_roundw
     case rel=>exact⟨k+m,ts++[⟨kd,k,tx,n⟩],oM,by go_num,⟨hown3,hog2⟩,by rw[La',List.length_singleton];omega,hf2,HR2⟩
     case measure=>simp[intOf];omega
  ·have hke:k=s.size:=by omega
   subst hke;have hR:=Hz (HR.out.symm.trans (congrArg (Mu ts) (restL_end s)));go_wp2_with (at_builtin;refine D2 _ rfl _ _ 44 rfl 52 i0 _ 4 40 underlying44 hi hz0 hz1 hz2 rfl dC _ _ _ rfl (hown.alloc _) ⟨wr.heap.size,0,none⟩ 1 1 [vI 0,vI s.size,vE,vI 0] rfl rfl ?d1 ?d2 ?d3 ?d4 ?_)
   case d1=>exact Yv _ _ _ _ _ _ 52 (Ag wr _)
   case d2=>intro u hu;simp at hu;rcases hu with rfl|rfl|rfl|rfl <;> rfl
   case d3=>unfold maxLen;omega
   case d4=>omega
   intro v' w2 hown2 hgrow hfp;have hf2:Fr [] w w2:=(hf.alloc _).append hgrow (fun g hg => .inr (hog g hg))
   have hog2:∀ g,v'.ownBlock=some g→w.heap.size≤g:=fun g hg=>by
    rcases hfp g hg with h|h
    ·exact hog g h
    ·have:=hf.size;(try simp only[World.size_alloc] at h);omega
   have hown3:w2.ownsRow 0 52 4 v' (ts++[(⟨0,s.size,[],0⟩:Tok)]).length (L3 (ts++[(⟨0,s.size,[],0⟩:Tok)])):=by
    rw[Sy,La'];exact hown2
   clear hown2 hgrow hfp hown;go_wp2_with fail
   go_ret3
   refine⟨?_,hf2⟩;rw[hR.out];exact⟨v',rfl,hown3,hog2⟩
theorem Lex_any(s:ByteArray)(hs:s.size≤9223372036854775807)(w:World)(hE:E1 w):
  Calls prog 14 #[.string s] w fun e w'=>lexOk (Es s.data.toList) w.heap.size e w'∧Fr [] w w':=by
 by_cases h:s.size≤4096
 ·exact Lex_small s h w hE
 ·exact Lex_big s hs oM w
structure RT (g:Nat)(ts:List Tok)(w:World):Prop where
 c0:∀ (k:Nat) (t:Tok),ts[k]?=some t→w.cell? ⟨g,k * 4,none⟩=some (vI t.k)
 c1:∀ (k:Nat) (t:Tok),ts[k]?=some t→w.cell? ⟨g,k * 4+1,none⟩=some (vI t.at')
 c2:∀ (k:Nat) (t:Tok),ts[k]?=some t→w.cell? ⟨g,k * 4+2,none⟩=some (.string ⟨t.text.toArray⟩)
 c3:∀ (k:Nat) (t:Tok),ts[k]?=some t→w.cell? ⟨g,k * 4+3,none⟩=some (vI t.n)
theorem Yy:∀ (ts:List Tok)(k j:Nat)(t:Tok),ts[k]?=some t→j<4→(L3 ts)[k * 4+j]?=(Kh t)[j]?
 | [],k,j,t,h,_=>by simp at h
 | u::ts,0,j,t,h,hj=>by
  simp at h;subst h;have e:L3 (u::ts)=Kh u++L3 ts:=rfl
  rw[e,Nat.zero_mul,Nat.zero_add,List.getElem?_append_left (by simp[Kh];omega)]
 | u::ts,k+1,j,t,h,hj=>by
  have e:L3 (u::ts)=Kh u++L3 ts:=rfl;have h':ts[k]?=some t:=by simpa using h
  have hl:(Kh u).length=4:=rfl;rw[e,List.getElem?_append_right (by rw[hl];omega),hl,← Yy ts k j t h' hj]
  congr 1
  omega
theorem form_ownT{B:Nat}{v:Value}{ts:List Tok}{w:World}(h:Qz B v ts w)(hne:ts≠[]):∃ g c,v = .slice (some ⟨g,0,none⟩) ts.length c∧B≤g∧g<w.heap.size∧RT g ts w:=by
 have hl:0<ts.length:=List.length_pos_iff.2 hne;obtain⟨g,cap,hv,_,hlt⟩:=World.ownsRow.form h.1 hl;subst hv;have hc:=fun(k j:Nat) (t:Tok) (hk:ts[k]?=some t) (hj:j<4)=>(World.ownsRow.cellAt h.1 (k * 4+j) (by have:=(List.getElem?_eq_some_iff.1 hk).1;omega)).trans (Yy ts k j t hk hj)
 exact⟨g,cap,rfl,h.2 g rfl,hlt,⟨fun k t hk=>hc k 0 t hk oM,fun k t hk=>hc k 1 t hk oM,fun k t hk=>hc k 2 t hk oM,fun k t hk=>hc k 3 t hk oM⟩⟩
theorem RT.fr{g:Nat}{ts:List Tok}{w w':World}(h:RT g ts w)(hf:Fr [] w w')(hg:g<w.heap.size):RT g ts w' :=
 ⟨fun k t hk=>(hf.cell (p:=⟨g,k * 4,none⟩) hg (fun x=>by cases x)).trans (h.c0 k t hk),fun k t hk=>(hf.cell (p:=⟨g,k * 4+1,none⟩) hg (fun x=>by cases x)).trans (h.c1 k t hk),fun k t hk=>(hf.cell (p:=⟨g,k * 4+2,none⟩) hg (fun x=>by cases x)).trans (h.c2 k t hk),fun k t hk=>(hf.cell (p:=⟨g,k * 4+3,none⟩) hg (fun x=>by cases x)).trans (h.c3 k t hk)⟩
theorem tok_bd{l:LB}{k:Int}{t:LB}{n:Int}{m:Nat}(h:tok l = .ok (k,t,n,m)):t.length≤l.length∧0≤n∧n≤4611686018427387903:=by
 have hr:∀ x,0≤Dy x∧Dy x≤4611686018427387903:=by
  intro x;unfold Dy;split
  ·rename_i h;omega
  ·omega
 unfold tok at h;split at h
 ·cases h
 ·rename_i c r
  have hle:=Kl (c::r);have hle2:=Kl r;split at h
  ·simp only[Except.ok.injEq,Prod.mk.injEq] at h;obtain⟨_,rfl,rfl,_⟩:=h;omega
  ·split at h
   ·simp only[Except.ok.injEq,Prod.mk.injEq] at h;obtain⟨_,rfl,rfl,_⟩:=h;omega
   ·split at h
    ·simp only[Except.ok.injEq,Prod.mk.injEq] at h;obtain⟨_,rfl,rfl,_⟩:=h;simp only[Lc'];omega
    ·split at h
     ·split at h
      ·simp only[Except.ok.injEq,Prod.mk.injEq] at h;obtain⟨_,rfl,rfl,_⟩:=h;have:=hr (Cy (c::r));exact⟨sM,this.1,this.2⟩
      ·cases h
     ·split at h
      ·split at h
       ·cases h
       ·rename_i j hq
        split at h
        ·cases h
        ·rename_i u hu
         simp only[Except.ok.injEq,Prod.mk.injEq] at h;obtain⟨_,rfl,rfl,_⟩:=h;have h1:=O7 hu;have h2:=Np u;have h3:=congrArg List.length h1;simp only[Dr,Lc',La',List.length_take] at h3;simp only[Lc'];omega
      ·split at h
       ·cases h
       ·rename_i x hx
        simp only[Except.ok.injEq,Prod.mk.injEq] at h;obtain⟨_,rfl,rfl,_⟩:=h;have hp:=(List.isPrefixOf_iff_prefix.1 (List.find?_some (p:=fun x:LB=>x.isPrefixOf (c::r)) hx)).length_le;omega
structure TokBd (M:Nat)(t:Tok):Prop where
 k0:0≤t.k
 k1:t.k≤7
 a:t.at'≤M
 x:t.text.length≤M
 n0:0≤t.n
 n1:t.n≤4611686018427387903
 l:(Iw t.k t.text t.n).length≤M
theorem lexL_bd{f a:Nat}{l:LB}{ts:List Tok}(h:Gq f a l = .ok ts):ts.length≤l.length+1∧∀ t ∈ ts,TokBd (a+l.length) t:=by
 refine Mf (P:=fun a l ts=>ts.length≤l.length+1∧∀ t ∈ ts,TokBd (a+l.length) t) ?_ ?_ ?_ f a l ts h
 ·intro a;refine⟨sM,fun t ht=>?_⟩;rw[List.mem_singleton] at ht;subst ht;exact⟨Int.le_refl 0,by simp only;omega,sM,sM,Int.le_refl 0,by simp only;omega,by simp[Iw]⟩
 ·rintro a c r ts _ ⟨h1,h2⟩;refine⟨by rw[Lc'];omega,fun t ht=>?_⟩;have:=h2 t ht;rw[Lc',show a+(r.length+1)=a+1+r.length by omega];exact this
 ·rintro a c r k t n m ts _ ht ⟨h1,h2⟩;have hm:=Kp ht;have hk:=Yt ht;have hb:=tok_bd ht;have hl:=Yu ht;rw[List.length_drop] at h1;refine⟨by rw[Lc'];omega,fun u hu=>?_⟩;rcases List.mem_cons.1 hu with rfl|hu
  ·exact⟨by simp only;omega,hk.2,by simp only;omega,by simp only;omega,hb.2.1,hb.2.2,by simp only;omega⟩
  ·have:=h2 u hu;rw[List.length_drop,show a+m+((c::r).length-m)=a+(c::r).length by omega] at this;exact this
theorem Om{s:LB}{ts:List Tok}(h:Es s = .ok ts):s.length≤4096∧Gq s.length 0 s = .ok ts∧ts.length≤4097∧(∀ t ∈ ts,TokBd 4096 t)∧∃ ys,ts=ys++[⟨0,s.length,[],0⟩]∧∀ y ∈ ys,GoodT y:=by
 unfold Es at h;split at h
 ·cases h
 ·rename_i hs
  have hb:=lexL_bd h;obtain⟨ys,hy,hg⟩:=lexL_last h;refine⟨oM,h,oM,fun t ht=>?_,ys,by rw[hy,Nat.zero_add],hg⟩;have:=hb.2 t ht;exact⟨this.k0,this.k1,by have:=this.a;omega,by have:=this.x;omega,this.n0,this.n1,by have:=this.l;omega⟩
theorem Pe{s:LB}{e:Int}{p:Nat}(h:Es s = .error (e,p)):(4096<s.length∧e=4∧p=0)∨(s.length≤4096∧p<s.length∧(e=20∨e=2)∧Gq s.length 0 s = .error (e,p)):=by
 unfold Es at h;split at h
 ·rename_i hs;cases h;exact .inl ⟨hs,rfl,rfl⟩
 ·rename_i hs
  have:=Ru s.length 0 s e p (Nr' _) h;exact .inr ⟨oM,oM,this.2.2,h⟩
def lexF(r:Except (Int×Nat) (List Tok))(e:Ending)(w':World):Prop:=match r with
 | .error (er,p)=>e = .returned (.tuple #[vZ,vI er,vI p])
 | .ok ts=>∃ g c,e = .returned (.tuple #[.slice (some ⟨g,0,none⟩) ts.length c,vI 0,vI 0])∧g<w'.heap.size∧RT g ts w'
theorem lexF_of{s:LB}{B:Nat}{e:Ending}{w':World}(h:lexOk (Es s) B e w'):lexF (Es s) e w':=by
 cases hl:Es s with
 | error x=>rw[hl] at h;exact h
 | ok ts =>
  rw[hl] at h;obtain⟨v,rfl,hO⟩:=h;obtain⟨_,_,_,_,ys,rfl,_⟩:=Om hl;obtain⟨g,c,rfl,_,hg,hR⟩:=form_ownT hO sM;exact⟨g,c,rfl,hg,hR⟩
theorem Lex_f(s:ByteArray)(hs:s.size≤9223372036854775807)(w:World)(hE:E1 w):
  Calls prog 14 #[.string s] w fun e w'=>lexF (Es s.data.toList) e w'∧Fr [] w w' :=
 (Lex_any s hs w hE).mono fun _ _ h=>⟨lexF_of h.1,h.2⟩
theorem Lex_ok(s:ByteArray)(hs:s.size≤9223372036854775807){ts:List Tok}(h:Es s.data.toList = .ok ts)(w:World)(hE:E1 w):
  Calls prog 14 #[.string s] w fun e w'=>(∃ g c,e = .returned (.tuple #[.slice (some ⟨g,0,none⟩) ts.length c,vI 0,vI 0])∧g<w'.heap.size∧RT g ts w')∧Fr [] w w' :=
 (Lex_f s hs w hE).mono fun _ _ h'=>by rw[h] at h';exact h'
theorem Lex_er(s:ByteArray)(hs:s.size≤9223372036854775807){er:Int}{p:Nat}(h:Es s.data.toList = .error (er,p))(w:World)(hE:E1 w):
  Calls prog 14 #[.string s] w fun e w'=>e = .returned (.tuple #[vZ,vI er,vI p])∧Fr [] w w' :=
 (Lex_f s hs w hE).mono fun _ _ h'=>by rw[h] at h';exact h'
end Go.Proofs.YtlafbbnikgcdlaaGreatDoor
