/- A part of the proof: Lu, L6, Lx, Lz. -/
import Derived.BigQuiet
import Derived.Deep.QuietTactic
import Derived.Deep.AppendLies
import Derived.Test.YtabhpdhajajoiaaGreatDoorEb5
namespace Go.Proofs.YtabhpdhajajoiaaGreatDoor
open Go.RowKit
open _root_.Go.Proofs.Tryz
set_option linter.all false
set_option maxHeartbeats 16000000
set_option maxRecDepth 100000
open List renaming length_cons→Lc',length_append→La'
open Nat renaming le_refl→Nr'
def Ez(k:Int)(a0:Nat)(t:LB)(n:Int):Value:=.agg #[vI k,vI a0,vS t,vI n]
def Kt(r:Except Int (Int×List UInt8×Int×Nat))(a0 b0:Nat)(e:Ending):Prop:=match r with
 | .ok (k,t,n,m)=>e = .returned (.tuple #[Ez k a0 t n,vI ((b0+m:Nat):Int),vI 0])
 | .error er=>∃ (k:Int) (a:Nat) (t:LB) (n v2:Int),e = .returned (.tuple #[Ez k a t n,vI v2,vI er])
theorem Gl{er:Int}{a0 b0:Nat}{k:Int}{a:Nat}{t:LB}{n v2:Int}{e:Ending}(h:e = .returned (.tuple #[Ez k a t n,vI v2,vI er])):Kt (.error er) a0 b0 e:=⟨k,a,t,n,v2,h⟩
theorem Eq(s:ByteArray)(h:0<s.size):s.data.toList=s[0]::s.data.toList.drop 1:=by
 have:=C9 s 0 h;simpa using this
theorem Ao{x:World}{B:Nat}{T:TypeId}{a b c d:Value}(h:x.heap[B]?=some (.cells #[a,b,c,d] T (0,0))):
  x.cell? ⟨B,0,none⟩=some a∧x.cell? ⟨B,1,none⟩=some b∧x.cell? ⟨B,2,none⟩=some c∧x.cell? ⟨B,3,none⟩=some d∧x.frozen? ⟨B,0,none⟩=false∧x.frozen? ⟨B,1,none⟩=false∧x.frozen? ⟨B,2,none⟩=false∧x.frozen? ⟨B,3,none⟩=false :=
 ⟨Ae h 0,Ae h 1,Ae h 2,Ae h 3,Ap h 0,Ap h 1,Ap h 2,Ap h 3⟩
theorem Jf{x:World}{B:Nat}{T:TypeId}{a b c d:Value}(h:x.heap[B]?=some (.cells #[a,b,c,d] T (0,0)))(p q r t:Value):
  ((((x.setCell ⟨B,0,none⟩ p).setCell ⟨B,1,none⟩ q).setCell ⟨B,2,none⟩ r).setCell ⟨B,3,none⟩ t).heap[B]?=some (.cells #[p,q,r,t] T (0,0)):=by
 simp[World.setCell,Array.getElem?_modify,h]
theorem Fr.store4{w x:World}{B:Nat}(h:Fr [] w x)(hB:w.heap.size=B)(p q r t:Value):Fr [] w ((((x.setCell ⟨B,0,none⟩ p).setCell ⟨B,1,none⟩ q).setCell ⟨B,2,none⟩ r).setCell ⟨B,3,none⟩ t):=by
 refine Fr.of_below ((((h.below0.setCell (p:=⟨B,0,none⟩) ?_ p).setCell (p:=⟨B,1,none⟩) ?_ q).setCell (p:=⟨B,2,none⟩) ?_ r).setCell (p:=⟨B,3,none⟩) ?_ t)
 all_goals(show w.heap.size≤B;omega)
theorem one_small(s:ByteArray)(hs:s.size≤1000000)(hp:0<s.size)(h1:Dl s[0]=true)(w:World)(hE:Dx w):
  Calls prog 73 #[.string s] w fun e w'=>Kt (tok s.data.toList) 0 0 e∧Fr [] w w':=by
 have ht:tok s.data.toList = .ok (if Df (Cc s.data.toList)=true then 6 else 1,Cc s.data.toList,0,(Cc s.data.toList).length):=by
  rw[Eq s hp,tok,if_pos h1]
 rw[ht];have hsm:=Cw s[0];rw[h1] at hsm;have wv:wrap32 ((s[0].toNat:Nat):Int)=((s[0].toNat:Nat):Int):=by have:=s[0].toNat_lt;unfold wrap32;omega
 have hrl:=Ic s.data.toList;rw[Ba] at hrl;have cw:=fun w hE=>Hz (Ot ⟨(Cc s.data.toList).toArray⟩ (by show(Cc s.data.toList).length≤1000000;omega) w hE)
 have cr:=fun w=>Hz (Ki s (by omega) w)
 clear ht h1
 generalize Cc s.data.toList=X at *
 cases hw:Df X with
 | true =>
  have hw2:Df (ByteArray.mk X.toArray).data.toList=true:=hw;rw[if_pos rfl];go_enter func73,ntmps73;go_wp2_with fail;have f0:Fr [] w (w.alloc (.cells #[vI 0,vI 0,vE,vI 0] 79)):=(Fr.refl [] w).alloc _;have h0:(w.alloc (.cells #[vI 0,vI 0,vE,vI 0] 79)).heap[w.heap.size]?=some (.cells #[vI 0,vI 0,vE,vI 0] 79 (0,0)):=Array.getElem?_push_size
  generalize (w.alloc (.cells #[vI 0,vI 0,vE,vI 0] 79))=w1 at *
  have hBw:w.heap.size≤w.heap.size:=Nr' _;generalize hB:w.heap.size=B at h0 hBw ⊢;refine(B5 _ _).mono ?_;rintro e x1 ⟨rfl,rfl⟩;go_wp2_with fail;refine(cr _).out.mono ?_;rintro e x1 ⟨rfl,f1⟩;go_wp2_with fail;refine(cw _ ((hE.fr f0).fr f1)).out.mono ?_;rintro e x2 ⟨rfl,f2⟩;rw[hw2];have g:=f2.keep (f1.keep h0 (fun h=>by cases h)) (fun h=>by cases h);obtain⟨c0,c1,c2,c3,z0,z1,z2,z3⟩:=Ao g;have ff:=(f0.trans f1).trans f2;have gz:=Jf g (vI 6) (vI 0) (vS X) (vI 0);have fz:=ff.store4 hB (vI 6) (vI 0) (vS X) (vI 0);clear h0 g;go_wp2_with fail;generalize (((x2.setCell ⟨B,0,none⟩ (vI 6)).setCell ⟨B,1,none⟩ (vI 0)).setCell ⟨B,2,none⟩ (vS X)).setCell ⟨B,3,none⟩ (vI 0)=Z at gz fz ⊢;obtain⟨d0,d1,d2,d3,_⟩:=Ao gz;refine bodyPost_ret (v:=.tuple #[Ez 6 0 X 0,vI ((0+X.length:Nat):Int),vI 0]) ?_ rfl ?_
  ·simp[results,Tryz.f73,go_sem,Ez,d0,d1,d2,d3]
  ·exact⟨rfl,fz⟩
 | false =>
  have hw2:Df (ByteArray.mk X.toArray).data.toList=false:=hw;rw[if_neg Bool.false_ne_true];go_enter func73,ntmps73;go_wp2_with fail;have f0:Fr [] w (w.alloc (.cells #[vI 0,vI 0,vE,vI 0] 79)):=(Fr.refl [] w).alloc _;have h0:(w.alloc (.cells #[vI 0,vI 0,vE,vI 0] 79)).heap[w.heap.size]?=some (.cells #[vI 0,vI 0,vE,vI 0] 79 (0,0)):=Array.getElem?_push_size
  generalize (w.alloc (.cells #[vI 0,vI 0,vE,vI 0] 79))=w1 at *
  have hBw:w.heap.size≤w.heap.size:=Nr' _;generalize hB:w.heap.size=B at h0 hBw ⊢;refine(B5 _ _).mono ?_;rintro e x1 ⟨rfl,rfl⟩;go_wp2_with fail;refine(cr _).out.mono ?_;rintro e x1 ⟨rfl,f1⟩;go_wp2_with fail;refine(cw _ ((hE.fr f0).fr f1)).out.mono ?_;rintro e x2 ⟨rfl,f2⟩;rw[hw2];have g:=f2.keep (f1.keep h0 (fun h=>by cases h)) (fun h=>by cases h);obtain⟨c0,c1,c2,c3,z0,z1,z2,z3⟩:=Ao g;have ff:=(f0.trans f1).trans f2;have gz:=Jf g (vI 1) (vI 0) (vS X) (vI 0);have fz:=ff.store4 hB (vI 1) (vI 0) (vS X) (vI 0);clear h0 g;go_wp2_with fail;generalize (((x2.setCell ⟨B,0,none⟩ (vI 1)).setCell ⟨B,1,none⟩ (vI 0)).setCell ⟨B,2,none⟩ (vS X)).setCell ⟨B,3,none⟩ (vI 0)=Z at gz fz ⊢;obtain⟨d0,d1,d2,d3,_⟩:=Ao gz;refine bodyPost_ret (v:=.tuple #[Ez 1 0 X 0,vI ((0+X.length:Nat):Int),vI 0]) ?_ rfl ?_
  ·simp[results,Tryz.f73,go_sem,Ez,d0,d1,d2,d3]
  ·exact⟨rfl,fz⟩
theorem one_great(s:ByteArray)(hs:s.size≤1000000)(hp:0<s.size)(h1:Dl s[0]=false)(h2:Cf s[0]=true)(w:World)(_hE:Dx w):
  Calls prog 73 #[.string s] w fun e w'=>Kt (tok s.data.toList) 0 0 e∧Fr [] w w':=by
 have ht:tok s.data.toList = .ok (2,Cc s.data.toList,0,(Cc s.data.toList).length):=by
  rw[Eq s hp,tok,if_neg (by simp[h1]),if_pos h2]
 rw[ht];have hsm:=Cw s[0];have hgr:=Cu s[0];rw[h1] at hsm;rw[h2] at hgr;have wv:wrap32 ((s[0].toNat:Nat):Int)=((s[0].toNat:Nat):Int):=by have:=s[0].toNat_lt;unfold wrap32;omega
 have hrl:=Ic s.data.toList;rw[Ba] at hrl;have cr:=fun w=>Hz (Ki s (by omega) w)
 clear ht h1 h2
 generalize Cc s.data.toList=X at *
 go_enter func73,ntmps73;go_wp2_with fail;have f0:Fr [] w (w.alloc (.cells #[vI 0,vI 0,vE,vI 0] 79)):=(Fr.refl [] w).alloc _;have h0:(w.alloc (.cells #[vI 0,vI 0,vE,vI 0] 79)).heap[w.heap.size]?=some (.cells #[vI 0,vI 0,vE,vI 0] 79 (0,0)):=Array.getElem?_push_size
 generalize (w.alloc (.cells #[vI 0,vI 0,vE,vI 0] 79))=w1 at *
 have hBw:w.heap.size≤w.heap.size:=Nr' _;generalize hB:w.heap.size=B at h0 hBw ⊢;refine(B5 _ _).mono ?_;rintro e x1 ⟨rfl,rfl⟩;go_wp2_with fail;refine(Ch _ _).mono ?_;rintro e x1 ⟨rfl,rfl⟩;go_wp2_with fail;refine(cr _).out.mono ?_;rintro e x1 ⟨rfl,f1⟩;have g:=f1.keep h0 (fun h=>by cases h);obtain⟨c0,c1,c2,c3,z0,z1,z2,z3⟩:=Ao g;have ff:=f0.trans f1;have gz:=Jf g (vI 2) (vI 0) (vS X) (vI 0);have fz:=ff.store4 hB (vI 2) (vI 0) (vS X) (vI 0);clear h0 g;go_wp2_with fail;generalize (((x1.setCell ⟨B,0,none⟩ (vI 2)).setCell ⟨B,1,none⟩ (vI 0)).setCell ⟨B,2,none⟩ (vS X)).setCell ⟨B,3,none⟩ (vI 0)=Z at gz fz ⊢;obtain⟨d0,d1,d2,d3,_⟩:=Ao gz;refine bodyPost_ret (v:=.tuple #[Ez 2 0 X 0,vI ((0+X.length:Nat):Int),vI 0]) ?_ rfl ?_
 ·simp[results,Tryz.f73,go_sem,Ez,d0,d1,d2,d3]
 ·exact⟨rfl,fz⟩
theorem one_tag(s:ByteArray)(hs:s.size≤1000000)(hp:0<s.size)(h1:s[0]=35)(hp2:1<s.size)(h2:Cf s[1]=true)(w:World)(_hE:Dx w):
  Calls prog 73 #[.string s] w fun e w'=>Kt (tok s.data.toList) 0 0 e∧Fr [] w w':=by
 have hr:s.data.toList.drop 1=s[1]::s.data.toList.drop 2:=C9 s 1 hp2
 have ht:tok s.data.toList = .ok (3,Cc (s.data.toList.drop 1),0,1+(Cc (s.data.toList.drop 1)).length):=by
  rw[Eq s hp,tok,if_neg (by rw[h1];decide),if_neg (by rw[h1];decide),if_pos ⟨h1,by rw[hr];simpa using h2⟩];rfl
 rw[ht];have hsm:G9 ((s[0].toNat:Nat):Int)=false:=by rw[Cw,h1];decide
 have hg0:G1 ((s[0].toNat:Nat):Int)=false:=by rw[Cu,h1];decide
 have e35:((s[0].toNat:Nat):Int)=35:=by rw[h1];rfl
 have b35:(((s[0].toNat:Nat):Int)==35)=true:=by rw[h1];rfl
 have hgr:=Cu s[1];rw[h2] at hgr;have l1:1<(s.size:Int):=by omega
 have wv:wrap32 ((s[0].toNat:Nat):Int)=((s[0].toNat:Nat):Int):=by have:=s[0].toNat_lt;unfold wrap32;omega
 have wv1:wrap32 ((s[1].toNat:Nat):Int)=((s[1].toNat:Nat):Int):=by have:=s[1].toNat_lt;unfold wrap32;omega
 have hrl:=Ic (s.data.toList.drop 1);rw[Dv] at hrl;have cr:=fun w=>Ki (s.extract 1 s.size) (by rw[show(s.extract 1 s.size).size=s.size-1 by simp];omega) w
 rw[Lib.extract_to_end s 1] at cr;have CR:=fun w=>Hz (cr w)
 clear ht h1 h2 hr cr
 generalize Cc (s.data.toList.drop 1)=X at *
 go_enter func73,ntmps73;go_wp2_with fail;have f0:Fr [] w (w.alloc (.cells #[vI 0,vI 0,vE,vI 0] 79)):=(Fr.refl [] w).alloc _;have h0:(w.alloc (.cells #[vI 0,vI 0,vE,vI 0] 79)).heap[w.heap.size]?=some (.cells #[vI 0,vI 0,vE,vI 0] 79 (0,0)):=Array.getElem?_push_size
 generalize (w.alloc (.cells #[vI 0,vI 0,vE,vI 0] 79))=w1 at *
 have hBw:w.heap.size≤w.heap.size:=Nr' _;generalize hB:w.heap.size=B at h0 hBw ⊢;refine(B5 _ _).mono ?_;rintro e x1 ⟨rfl,rfl⟩;go_wp2_with fail;refine(Ch _ _).mono ?_;rintro e x1 ⟨rfl,rfl⟩;go_wp2_with fail;refine(Ch _ _).mono ?_;rintro e x1 ⟨rfl,rfl⟩;go_wp2_with fail;refine(CR _).out.mono ?_;rintro e x1 ⟨rfl,f1⟩;have g:=f1.keep h0 (fun h=>by cases h);obtain⟨c0,c1,c2,c3,z0,z1,z2,z3⟩:=Ao g;have ff:=f0.trans f1;have gz:=Jf g (vI 3) (vI 0) (vS X) (vI 0);have fz:=ff.store4 hB (vI 3) (vI 0) (vS X) (vI 0);clear h0 g;go_wp2_with fail;generalize (((x1.setCell ⟨B,0,none⟩ (vI 3)).setCell ⟨B,1,none⟩ (vI 0)).setCell ⟨B,2,none⟩ (vS X)).setCell ⟨B,3,none⟩ (vI 0)=Z at gz fz ⊢;obtain⟨d0,d1,d2,d3,_⟩:=Ao gz;refine bodyPost_ret (v:=.tuple #[Ez 3 0 X 0,vI ((0+(1+X.length):Nat):Int),vI 0]) ?_ rfl ?_
 ·simp[results,Tryz.f73,go_sem,Ez,d0,d1,d2,d3]
 ·exact⟨rfl,fz⟩
theorem Vo(l:LB):Er l=0∨Er l=2∨Er l=5:=by
 unfold Er;split
 ·split
  ·exact .inl rfl
  ·exact .inr (.inl rfl)
 ·exact .inr (.inr rfl)
theorem one_digit(s:ByteArray)(hs:s.size≤1000000)(hp:0<s.size)(h1:Co s[0]=true)(w:World)(hE:Dx w):
  Calls prog 73 #[.string s] w fun e w'=>Kt (tok s.data.toList) 0 0 e∧Fr [] w w':=by
 have hd:=(Ft s[0]).1 h1;have n1:Dl s[0]=false:=by rw[← Cw,Bool.eq_false_iff];intro h;simp[G9] at h;omega
 have n2:Cf s[0]=false:=by rw[← Cu,Bool.eq_false_iff];intro h;simp[G1] at h;omega
 have n3:s[0]≠35:=by intro h;rw[h] at hd;exact absurd hd (by decide)
 have ht:tok s.data.toList=(if Er (Cc s.data.toList)=0 then .ok (4,[],C8 (Cc s.data.toList),(Cc s.data.toList).length)else .error (if Er (Cc s.data.toList)=5 then 20 else Er (Cc s.data.toList))):=by
  rw[Eq s hp,tok,if_neg (by simp[n1]),if_neg (by simp[n2]),if_neg (fun h=>n3 h.1),if_pos h1]
 rw[ht];have hsm:=Cw s[0];have hgr:=Cu s[0];have hdg:=Ev s[0];rw[n1] at hsm;rw[n2] at hgr;rw[h1] at hdg;have b35:(((s[0].toNat:Nat):Int)==35)=false:=by rw[bN];omega
 have e35:¬ ((s[0].toNat:Nat):Int)=35:=by omega
 have wv:wrap32 ((s[0].toNat:Nat):Int)=((s[0].toNat:Nat):Int):=by have:=s[0].toNat_lt;unfold wrap32;omega
 have hrl:=Ic s.data.toList;rw[Ba] at hrl;have cr:=fun w=>Hz (Ki s (by omega) w)
 have cd:=fun w hE=>Hz (Read_any ⟨(Cc s.data.toList).toArray⟩ (by show(Cc s.data.toList).length≤281474976710656;omega) w hE)
 have hcase:=Vo (Cc s.data.toList);clear ht h1 n1 n2 n3 hd
 generalize Cc s.data.toList=X at *
 rcases hcase with hc|hc|hc
 ·have hc2:Er (ByteArray.mk X.toArray).data.toList=0:=hc;rw[if_pos hc];go_enter func73,ntmps73;go_wp2_with fail;have f0:Fr [] w (w.alloc (.cells #[vI 0,vI 0,vE,vI 0] 79)):=(Fr.refl [] w).alloc _;have h0:(w.alloc (.cells #[vI 0,vI 0,vE,vI 0] 79)).heap[w.heap.size]?=some (.cells #[vI 0,vI 0,vE,vI 0] 79 (0,0)):=Array.getElem?_push_size
  generalize (w.alloc (.cells #[vI 0,vI 0,vE,vI 0] 79))=w1 at *
  have hBw:w.heap.size≤w.heap.size:=Nr' _;generalize hB:w.heap.size=B at h0 hBw ⊢;refine(B5 _ _).mono ?_;rintro e x1 ⟨rfl,rfl⟩;go_wp2_with fail;refine(Ch _ _).mono ?_;rintro e x1 ⟨rfl,rfl⟩;go_wp2_with fail;refine(Dn _ _).mono ?_;rintro e x1 ⟨rfl,rfl⟩;go_wp2_with fail;refine(cr _).out.mono ?_;rintro e x1 ⟨rfl,f1⟩;go_wp2_with fail;refine(cd _ ((hE.fr f0).fr f1).env).out.mono ?_;rintro e x2 ⟨rfl,f2⟩;rw[hc2];have en:C8 (ByteArray.mk X.toArray).data.toList=C8 X:=rfl;rw[en];have g:=f2.keep (f1.keep h0 (fun h=>by cases h)) (fun h=>by cases h);obtain⟨c0,c1,c2,c3,z0,z1,z2,z3⟩:=Ao g;have ff:=(f0.trans f1).trans f2;have gz:=Jf g (vI 4) (vI 0) (.string ⟨([]:LB).toArray⟩) (vI (C8 X));have fz:=ff.store4 hB (vI 4) (vI 0) (.string ⟨([]:LB).toArray⟩) (vI (C8 X));clear h0 g;go_wp2_with fail;generalize (((x2.setCell ⟨B,0,none⟩ (vI 4)).setCell ⟨B,1,none⟩ (vI 0)).setCell ⟨B,2,none⟩ (.string ⟨([]:LB).toArray⟩)).setCell ⟨B,3,none⟩ (vI (C8 X))=Z at gz fz ⊢;obtain⟨d0,d1,d2,d3,_⟩:=Ao gz;refine bodyPost_ret (v:=.tuple #[Ez 4 0 ([]:LB) (C8 X),vI ((0+X.length:Nat):Int),vI 0]) ?_ rfl ?_
  ·simp[results,Tryz.f73,go_sem,Ez,d0,d1,d2,d3]
  ·exact⟨rfl,fz⟩
 ·have hc2:Er (ByteArray.mk X.toArray).data.toList=2:=hc;rw[if_neg (by omega),if_neg (by omega),hc];go_enter func73,ntmps73;go_wp2_with fail;have f0:Fr [] w (w.alloc (.cells #[vI 0,vI 0,vE,vI 0] 79)):=(Fr.refl [] w).alloc _;have h0:(w.alloc (.cells #[vI 0,vI 0,vE,vI 0] 79)).heap[w.heap.size]?=some (.cells #[vI 0,vI 0,vE,vI 0] 79 (0,0)):=Array.getElem?_push_size
  generalize (w.alloc (.cells #[vI 0,vI 0,vE,vI 0] 79))=w1 at *
  have hBw:w.heap.size≤w.heap.size:=Nr' _;generalize hB:w.heap.size=B at h0 hBw ⊢;refine(B5 _ _).mono ?_;rintro e x1 ⟨rfl,rfl⟩;go_wp2_with fail;refine(Ch _ _).mono ?_;rintro e x1 ⟨rfl,rfl⟩;go_wp2_with fail;refine(Dn _ _).mono ?_;rintro e x1 ⟨rfl,rfl⟩;go_wp2_with fail;refine(cr _).out.mono ?_;rintro e x1 ⟨rfl,f1⟩;go_wp2_with fail;refine(cd _ ((hE.fr f0).fr f1).env).out.mono ?_;rintro e x2 ⟨rfl,f2⟩;rw[hc2];have en:C8 (ByteArray.mk X.toArray).data.toList=C8 X:=rfl;rw[en];have g:=f2.keep (f1.keep h0 (fun h=>by cases h)) (fun h=>by cases h);obtain⟨c0,c1,c2,c3,z0,z1,z2,z3⟩:=Ao g;have ff:=(f0.trans f1).trans f2;have gz:=Jf g (vI 4) (vI 0) (.string ⟨([]:LB).toArray⟩) (vI (C8 X));have fz:=ff.store4 hB (vI 4) (vI 0) (.string ⟨([]:LB).toArray⟩) (vI (C8 X));clear h0 g;go_wp2_with fail;generalize (((x2.setCell ⟨B,0,none⟩ (vI 4)).setCell ⟨B,1,none⟩ (vI 0)).setCell ⟨B,2,none⟩ (.string ⟨([]:LB).toArray⟩)).setCell ⟨B,3,none⟩ (vI (C8 X))=Z at gz fz ⊢;obtain⟨d0,d1,d2,d3,_⟩:=Ao gz;refine bodyPost_ret (v:=.tuple #[Ez 4 0 ([]:LB) (C8 X),vI ((0+X.length:Nat):Int),vI 2]) ?_ rfl ?_
  ·simp[results,Tryz.f73,go_sem,Ez,d0,d1,d2,d3]
  ·exact⟨Gl rfl,fz⟩
 ·have hc2:Er (ByteArray.mk X.toArray).data.toList=5:=hc;rw[if_neg (by omega),if_pos hc];go_enter func73,ntmps73;go_wp2_with fail;have f0:Fr [] w (w.alloc (.cells #[vI 0,vI 0,vE,vI 0] 79)):=(Fr.refl [] w).alloc _;have h0:(w.alloc (.cells #[vI 0,vI 0,vE,vI 0] 79)).heap[w.heap.size]?=some (.cells #[vI 0,vI 0,vE,vI 0] 79 (0,0)):=Array.getElem?_push_size
  generalize (w.alloc (.cells #[vI 0,vI 0,vE,vI 0] 79))=w1 at *
  have hBw:w.heap.size≤w.heap.size:=Nr' _;generalize hB:w.heap.size=B at h0 hBw ⊢;refine(B5 _ _).mono ?_;rintro e x1 ⟨rfl,rfl⟩;go_wp2_with fail;refine(Ch _ _).mono ?_;rintro e x1 ⟨rfl,rfl⟩;go_wp2_with fail;refine(Dn _ _).mono ?_;rintro e x1 ⟨rfl,rfl⟩;go_wp2_with fail;refine(cr _).out.mono ?_;rintro e x1 ⟨rfl,f1⟩;go_wp2_with fail;refine(cd _ ((hE.fr f0).fr f1).env).out.mono ?_;rintro e x2 ⟨rfl,f2⟩;rw[hc2];have en:C8 (ByteArray.mk X.toArray).data.toList=C8 X:=rfl;rw[en];have g:=f2.keep (f1.keep h0 (fun h=>by cases h)) (fun h=>by cases h);obtain⟨c0,c1,c2,c3,z0,z1,z2,z3⟩:=Ao g;have ff:=(f0.trans f1).trans f2;have gz:=Jf g (vI 4) (vI 0) (.string ⟨([]:LB).toArray⟩) (vI (C8 X));have fz:=ff.store4 hB (vI 4) (vI 0) (.string ⟨([]:LB).toArray⟩) (vI (C8 X));clear h0 g;go_wp2_with fail;generalize (((x2.setCell ⟨B,0,none⟩ (vI 4)).setCell ⟨B,1,none⟩ (vI 0)).setCell ⟨B,2,none⟩ (.string ⟨([]:LB).toArray⟩)).setCell ⟨B,3,none⟩ (vI (C8 X))=Z at gz fz ⊢;obtain⟨d0,d1,d2,d3,_⟩:=Ao gz;refine bodyPost_ret (v:=.tuple #[Ez 4 0 ([]:LB) (C8 X),vI ((0+X.length:Nat):Int),vI 20]) ?_ rfl ?_
  ·simp[results,Tryz.f73,go_sem,Ez,d0,d1,d2,d3]
  ·exact⟨Gl rfl,fz⟩
theorem tok_quote(l:LB)(r:LB)(h:l=34::r):tok l=match S7 l with
  | none => .error 20
  | some x=>match unq x with
   | none => .error 20
   | some t => .ok (5,t,0,x.length):=by
 subst h;have e0:S7 (34::r)=(Fx r).map fun k=>(34::r).take (1+k):=rfl
 rw[e0,tok,if_neg (by decide),if_neg (by decide),if_neg (fun x=>absurd x.1 (by decide)),if_neg (by decide),if_pos rfl]
 cases e:Fx r with
 | none=>rfl
 | some k =>
  have hk:=Yy r false k e;simp only[Option.map_some]
  cases unq ((34::r).take (1+k))with
  | none=>rfl
  | some t =>
   have:((34::r).take (1+k)).length=1+k:=by rw[List.length_take,Lc'];omega
   simp only[this]
theorem quoL_le{l x:LB}(h:S7 l=some x):x.length≤l.length:=by
 unfold S7 at h
 cases e:Fx (l.drop 1)with
 | none=>rw[e] at h;cases h
 | some k=>rw[e] at h;cases h;rw[List.length_take];omega
theorem one_quote(s:ByteArray)(hs:s.size≤1000000)(hp:0<s.size)(h1:s[0]=34)(w:World)(_hE:Dx w):
  Calls prog 73 #[.string s] w fun e w'=>Kt (tok s.data.toList) 0 0 e∧Fr [] w w':=by
 have hv:s[0].toNat=34:=by rw[h1];rfl
 have ht:=tok_quote s.data.toList (s.data.toList.drop 1) ((Eq s hp).trans (by rw[h1]));rw[ht];have hsm:G9 ((s[0].toNat:Nat):Int)=false:=by rw[Cw,h1];decide
 have hgr:G1 ((s[0].toNat:Nat):Int)=false:=by rw[Cu,h1];decide
 have hdg:I5 ((s[0].toNat:Nat):Int)=false:=by rw[Ev,h1];decide
 have b35:(((s[0].toNat:Nat):Int)==35)=false:=by rw[bN];omega
 have e35:¬ ((s[0].toNat:Nat):Int)=35:=by omega
 have b34:(((s[0].toNat:Nat):Int)==34)=true:=by rw[beq_iff_eq];omega
 have e34:((s[0].toNat:Nat):Int)=34:=by omega
 have wv:wrap32 ((s[0].toNat:Nat):Int)=((s[0].toNat:Nat):Int):=by have:=s[0].toNat_lt;unfold wrap32;omega
 have cq:=fun w=>Hz (Xq s hs w)
 clear ht h1 hv
 cases hq:S7 s.data.toList with
 | none =>
  rw[hq] at cq;simp only[Option.getD_none,Option.isSome_none] at cq ⊢;go_enter func73,ntmps73;go_wp2_with fail;have f0:Fr [] w (w.alloc (.cells #[vI 0,vI 0,vE,vI 0] 79)):=(Fr.refl [] w).alloc _;have h0:(w.alloc (.cells #[vI 0,vI 0,vE,vI 0] 79)).heap[w.heap.size]?=some (.cells #[vI 0,vI 0,vE,vI 0] 79 (0,0)):=Array.getElem?_push_size
  generalize (w.alloc (.cells #[vI 0,vI 0,vE,vI 0] 79))=w1 at *
  have hBw:w.heap.size≤w.heap.size:=Nr' _;generalize hB:w.heap.size=B at h0 hBw ⊢;refine(B5 _ _).mono ?_;rintro e x1 ⟨rfl,rfl⟩;go_wp2_with fail;refine(Ch _ _).mono ?_;rintro e x1 ⟨rfl,rfl⟩;go_wp2_with fail;refine(Dn _ _).mono ?_;rintro e x1 ⟨rfl,rfl⟩;go_wp2_with fail;refine(cq _).out.mono ?_;rintro e x1 ⟨rfl,rfl⟩;have g:=h0;obtain⟨c0,c1,c2,c3,z0,z1,z2,z3⟩:=Ao g;have ff:=f0;have gz:=Jf g (vI 0) (vI 0) (.string ⟨([]:LB).toArray⟩) (vI 0);have fz:=ff.store4 hB (vI 0) (vI 0) (.string ⟨([]:LB).toArray⟩) (vI 0);clear h0 g;go_wp2_with fail;generalize (((w1.setCell ⟨B,0,none⟩ (vI 0)).setCell ⟨B,1,none⟩ (vI 0)).setCell ⟨B,2,none⟩ (.string ⟨([]:LB).toArray⟩)).setCell ⟨B,3,none⟩ (vI 0)=Z at gz fz ⊢;obtain⟨d0,d1,d2,d3,_⟩:=Ao gz;refine bodyPost_ret (v:=.tuple #[Ez 0 0 ([]:LB) 0,vI ((0:Nat):Int),vI 20]) ?_ rfl ?_
  ·simp[results,Tryz.f73,go_sem,Ez,d0,d1,d2,d3]
  ·exact⟨Gl rfl,fz⟩
 | some X =>
  have hx:=quoL_le hq;rw[Ba] at hx;rw[hq] at cq;simp only[Option.getD_some,Option.isSome_some] at cq ⊢;have cu:=fun w=>Hz (Tr ⟨X.toArray⟩ (by show X.length≤16777216;omega) w)
  have hxa:(ByteArray.mk X.toArray).data.toList=X:=rfl;rw[hxa] at cu;clear hq hxa
  cases hu:unq X with
  | none =>
   obtain⟨u1,u2⟩:=unq_n hu;rw[u1,u2] at cu;clear hu u1 u2;simp only;go_enter func73,ntmps73;go_wp2_with fail;have f0:Fr [] w (w.alloc (.cells #[vI 0,vI 0,vE,vI 0] 79)):=(Fr.refl [] w).alloc _;have h0:(w.alloc (.cells #[vI 0,vI 0,vE,vI 0] 79)).heap[w.heap.size]?=some (.cells #[vI 0,vI 0,vE,vI 0] 79 (0,0)):=Array.getElem?_push_size
   generalize (w.alloc (.cells #[vI 0,vI 0,vE,vI 0] 79))=w1 at *
   have hBw:w.heap.size≤w.heap.size:=Nr' _;generalize hB:w.heap.size=B at h0 hBw ⊢;refine(B5 _ _).mono ?_;rintro e x1 ⟨rfl,rfl⟩;go_wp2_with fail;refine(Ch _ _).mono ?_;rintro e x1 ⟨rfl,rfl⟩;go_wp2_with fail;refine(Dn _ _).mono ?_;rintro e x1 ⟨rfl,rfl⟩;go_wp2_with fail;refine(cq _).out.mono ?_;rintro e x1 ⟨rfl,rfl⟩;go_wp2_with fail;refine(cu _).out.mono ?_;rintro e x1 ⟨rfl,f1⟩;have g:=f1.keep h0 (fun h=>by cases h);obtain⟨c0,c1,c2,c3,z0,z1,z2,z3⟩:=Ao g;have ff:=f0.trans f1;have gz:=Jf g (vI 0) (vI 0) (.string ⟨([]:LB).toArray⟩) (vI 0);have fz:=ff.store4 hB (vI 0) (vI 0) (.string ⟨([]:LB).toArray⟩) (vI 0);clear h0 g;go_wp2_with fail;generalize (((x1.setCell ⟨B,0,none⟩ (vI 0)).setCell ⟨B,1,none⟩ (vI 0)).setCell ⟨B,2,none⟩ (.string ⟨([]:LB).toArray⟩)).setCell ⟨B,3,none⟩ (vI 0)=Z at gz fz ⊢;obtain⟨d0,d1,d2,d3,_⟩:=Ao gz;refine bodyPost_ret (v:=.tuple #[Ez 0 0 ([]:LB) 0,vI ((0:Nat):Int),vI 20]) ?_ rfl ?_
   ·simp[results,Tryz.f73,go_sem,Ez,d0,d1,d2,d3]
   ·exact⟨Gl rfl,fz⟩
  | some U =>
   obtain⟨u1,u2⟩:=unq_s hu;rw[u1,u2] at cu;clear hu u1 u2;simp only;go_enter func73,ntmps73;go_wp2_with fail;have f0:Fr [] w (w.alloc (.cells #[vI 0,vI 0,vE,vI 0] 79)):=(Fr.refl [] w).alloc _;have h0:(w.alloc (.cells #[vI 0,vI 0,vE,vI 0] 79)).heap[w.heap.size]?=some (.cells #[vI 0,vI 0,vE,vI 0] 79 (0,0)):=Array.getElem?_push_size
   generalize (w.alloc (.cells #[vI 0,vI 0,vE,vI 0] 79))=w1 at *
   have hBw:w.heap.size≤w.heap.size:=Nr' _;generalize hB:w.heap.size=B at h0 hBw ⊢;refine(B5 _ _).mono ?_;rintro e x1 ⟨rfl,rfl⟩;go_wp2_with fail;refine(Ch _ _).mono ?_;rintro e x1 ⟨rfl,rfl⟩;go_wp2_with fail;refine(Dn _ _).mono ?_;rintro e x1 ⟨rfl,rfl⟩;go_wp2_with fail;refine(cq _).out.mono ?_;rintro e x1 ⟨rfl,rfl⟩;go_wp2_with fail;refine(cu _).out.mono ?_;rintro e x1 ⟨rfl,f1⟩;have g:=f1.keep h0 (fun h=>by cases h);obtain⟨c0,c1,c2,c3,z0,z1,z2,z3⟩:=Ao g;have ff:=f0.trans f1;have gz:=Jf g (vI 5) (vI 0) (vS U) (vI 0);have fz:=ff.store4 hB (vI 5) (vI 0) (vS U) (vI 0);clear h0 g;go_wp2_with fail;generalize (((x1.setCell ⟨B,0,none⟩ (vI 5)).setCell ⟨B,1,none⟩ (vI 0)).setCell ⟨B,2,none⟩ (vS U)).setCell ⟨B,3,none⟩ (vI 0)=Z at gz fz ⊢;obtain⟨d0,d1,d2,d3,_⟩:=Ao gz;refine bodyPost_ret (v:=.tuple #[Ez 5 0 U 0,vI ((0+X.length:Nat):Int),vI 0]) ?_ rfl ?_
   ·simp[results,Tryz.f73,go_sem,Ez,d0,d1,d2,d3]
   ·exact⟨rfl,fz⟩
theorem Jw{l:LB}(h:Bf.find? (fun x=>x.isPrefixOf l)=none):I9 l=[]:=by unfold I9 Ll;rw[h];rfl
theorem Jy{l x:LB}(h:Bf.find? (fun x=>x.isPrefixOf l)=some x):I9 l=x:=by unfold I9 Ll;rw[h];rfl
theorem one_sign(s:ByteArray)(hs:s.size≤1000000)(hp:0<s.size)(h1:Dl s[0]=false)(h2:Cf s[0]=false)(h3:s[0]≠35)(h4:Co s[0]=false)(h5:s[0]≠34)(w:World)(_hE:Dx w):
  Calls prog 73 #[.string s] w fun e w'=>Kt (tok s.data.toList) 0 0 e∧Fr [] w w':=by
 have ht:tok s.data.toList=match Bf.find? (fun x=>x.isPrefixOf s.data.toList)with
   | none => .error 20
   | some x => .ok (7,x,0,x.length):=by
  conv=>lhs;rw[Eq s hp]
  rw[tok,if_neg (by simp[h1]),if_neg (by simp[h2]),if_neg ?n3,if_neg (by simp[h4]),if_neg h5,← Eq s hp]
  case n3 =>
   rintro⟨x1,x2⟩;exact h3 x1
  all_goals
   cases Bf.find? (fun x=>x.isPrefixOf s.data.toList)with
   | none=>rfl
   | some x=>rfl
 rw[ht];have hsm:=Cw s[0];have hgr:=Cu s[0];have hdg:=Ev s[0];rw[h1] at hsm;rw[h2] at hgr;rw[h4] at hdg;have e34:¬ ((s[0].toNat:Nat):Int)=34:=by intro h;apply h5;apply UInt8.toNat_inj.1;have h9:(34:UInt8).toNat=34:=rfl;omega
 have b34:(((s[0].toNat:Nat):Int)==34)=false:=by rw[bN];exact e34
 have wv:wrap32 ((s[0].toNat:Nat):Int)=((s[0].toNat:Nat):Int):=by have:=s[0].toNat_lt;unfold wrap32;omega
 have cs:=fun w=>Hz (Qg s hs w)
 have b35:(((s[0].toNat:Nat):Int)==35)=false:=by rw[bN];intro h;apply h3;apply UInt8.toNat_inj.1;have h9:(35:UInt8).toNat=35:=rfl;omega
 have e35:¬ ((s[0].toNat:Nat):Int)=35:=by rw[bN] at b35;exact b35
 clear h3;clear ht h1 h2 h4 h5
 cases hq:Bf.find? (fun x=>x.isPrefixOf s.data.toList)with
 | none =>
  rw[Jw hq] at cs;clear hq;simp only;go_enter func73,ntmps73;go_wp2_with fail;have f0:Fr [] w (w.alloc (.cells #[vI 0,vI 0,vE,vI 0] 79)):=(Fr.refl [] w).alloc _;have h0:(w.alloc (.cells #[vI 0,vI 0,vE,vI 0] 79)).heap[w.heap.size]?=some (.cells #[vI 0,vI 0,vE,vI 0] 79 (0,0)):=Array.getElem?_push_size
  generalize (w.alloc (.cells #[vI 0,vI 0,vE,vI 0] 79))=w1 at *
  have hBw:w.heap.size≤w.heap.size:=Nr' _;generalize hB:w.heap.size=B at h0 hBw ⊢;refine(B5 _ _).mono ?_;rintro e x1 ⟨rfl,rfl⟩;go_wp2_with fail;refine(Ch _ _).mono ?_;rintro e x1 ⟨rfl,rfl⟩;go_wp2_with fail;refine(Dn _ _).mono ?_;rintro e x1 ⟨rfl,rfl⟩;go_wp2_with fail;refine(cs _).out.mono ?_;rintro e x1 ⟨rfl,f1'⟩;have f1:=Fr.of_below f1';clear f1';have g:=f1.keep h0 (fun h=>by cases h);obtain⟨c0,c1,c2,c3,z0,z1,z2,z3⟩:=Ao g;have ff:=f0.trans f1;have gz:=Jf g (vI 0) (vI 0) (.string ⟨([]:LB).toArray⟩) (vI 0);have fz:=ff.store4 hB (vI 0) (vI 0) (.string ⟨([]:LB).toArray⟩) (vI 0);clear h0 g;go_wp2_with fail;generalize (((x1.setCell ⟨B,0,none⟩ (vI 0)).setCell ⟨B,1,none⟩ (vI 0)).setCell ⟨B,2,none⟩ (.string ⟨([]:LB).toArray⟩)).setCell ⟨B,3,none⟩ (vI 0)=Z at gz fz ⊢;obtain⟨d0,d1,d2,d3,_⟩:=Ao gz;refine bodyPost_ret (v:=.tuple #[Ez 0 0 ([]:LB) 0,vI ((0:Nat):Int),vI 20]) ?_ rfl ?_
  ·simp[results,Tryz.f73,go_sem,Ez,d0,d1,d2,d3]
  ·exact⟨Gl rfl,fz⟩
 | some X =>
  have hx:¬ X=[]:=by
   have:=(Fw X (List.mem_of_find?_eq_some hq)).1;intro h;subst h;simp at this
  have hx0:X.isEmpty=false:=by cases X with|nil=>exact absurd rfl hx|cons _ _=>rfl
  have hx2:(ByteArray.mk X.toArray).toList=X:=by rw[ByteArray.toList_eq]
  have e1:¬ (ByteArray.mk X.toArray).toList=[]:=by rw[hx2];exact hx
  have e0:(ByteArray.mk X.toArray).toList.isEmpty=false:=by rw[hx2];exact hx0
  rw[Jy hq] at cs;clear hq hx2;simp only;go_enter func73,ntmps73;go_wp2_with fail;have f0:Fr [] w (w.alloc (.cells #[vI 0,vI 0,vE,vI 0] 79)):=(Fr.refl [] w).alloc _;have h0:(w.alloc (.cells #[vI 0,vI 0,vE,vI 0] 79)).heap[w.heap.size]?=some (.cells #[vI 0,vI 0,vE,vI 0] 79 (0,0)):=Array.getElem?_push_size
  generalize (w.alloc (.cells #[vI 0,vI 0,vE,vI 0] 79))=w1 at *
  have hBw:w.heap.size≤w.heap.size:=Nr' _;generalize hB:w.heap.size=B at h0 hBw ⊢;refine(B5 _ _).mono ?_;rintro e x1 ⟨rfl,rfl⟩;go_wp2_with fail;refine(Ch _ _).mono ?_;rintro e x1 ⟨rfl,rfl⟩;go_wp2_with fail;refine(Dn _ _).mono ?_;rintro e x1 ⟨rfl,rfl⟩;go_wp2_with fail;refine(cs _).out.mono ?_;rintro e x1 ⟨rfl,f1'⟩;have f1:=Fr.of_below f1';clear f1';have g:=f1.keep h0 (fun h=>by cases h);obtain⟨c0,c1,c2,c3,z0,z1,z2,z3⟩:=Ao g;have ff:=f0.trans f1;have gz:=Jf g (vI 7) (vI 0) (vS X) (vI 0);have fz:=ff.store4 hB (vI 7) (vI 0) (vS X) (vI 0);clear h0 g;go_wp2_with fail;generalize (((x1.setCell ⟨B,0,none⟩ (vI 7)).setCell ⟨B,1,none⟩ (vI 0)).setCell ⟨B,2,none⟩ (vS X)).setCell ⟨B,3,none⟩ (vI 0)=Z at gz fz ⊢;obtain⟨d0,d1,d2,d3,_⟩:=Ao gz;refine bodyPost_ret (v:=.tuple #[Ez 7 0 X 0,vI ((0+X.length:Nat):Int),vI 0]) ?_ rfl ?_
  ·simp[results,Tryz.f73,go_sem,Ez,d0,d1,d2,d3]
  ·exact⟨rfl,fz⟩
theorem one_hash1(s:ByteArray)(hs:s.size≤1000000)(hp:0<s.size)(h1:Dl s[0]=false)(h2:Cf s[0]=false)(h3:s[0]=35)(h6:s.size≤1)(h4:Co s[0]=false)(h5:s[0]≠34)(w:World)(_hE:Dx w):
  Calls prog 73 #[.string s] w fun e w'=>Kt (tok s.data.toList) 0 0 e∧Fr [] w w':=by
 have ht:tok s.data.toList=match Bf.find? (fun x=>x.isPrefixOf s.data.toList)with
   | none => .error 20
   | some x => .ok (7,x,0,x.length):=by
  conv=>lhs;rw[Eq s hp]
  rw[tok,if_neg (by simp[h1]),if_neg (by simp[h2]),if_neg ?n3,if_neg (by simp[h4]),if_neg h5,← Eq s hp]
  case n3 =>
   rintro⟨x1,x2⟩;rw[List.drop_of_length_le (by rw[Ba];exact h6)] at x2;simp at x2
  all_goals
   cases Bf.find? (fun x=>x.isPrefixOf s.data.toList)with
   | none=>rfl
   | some x=>rfl
 rw[ht];have hsm:=Cw s[0];have hgr:=Cu s[0];have hdg:=Ev s[0];rw[h1] at hsm;rw[h2] at hgr;rw[h4] at hdg;have e34:¬ ((s[0].toNat:Nat):Int)=34:=by intro h;apply h5;apply UInt8.toNat_inj.1;have h9:(34:UInt8).toNat=34:=rfl;omega
 have b34:(((s[0].toNat:Nat):Int)==34)=false:=by rw[bN];exact e34
 have wv:wrap32 ((s[0].toNat:Nat):Int)=((s[0].toNat:Nat):Int):=by have:=s[0].toNat_lt;unfold wrap32;omega
 have cs:=fun w=>Hz (Qg s hs w)
 have b35:(((s[0].toNat:Nat):Int)==35)=true:=by rw[h3];rfl
 have e35:((s[0].toNat:Nat):Int)=35:=by rw[h3];rfl
 have l1:¬ 1<(s.size:Int):=by omega
 have l2:decide (1<(s.size:Int))=false:=by simpa using l1
 clear h3;clear ht h1 h2 h4 h5
 cases hq:Bf.find? (fun x=>x.isPrefixOf s.data.toList)with
 | none =>
  rw[Jw hq] at cs;clear hq;simp only;go_enter func73,ntmps73;go_wp2_with fail;have f0:Fr [] w (w.alloc (.cells #[vI 0,vI 0,vE,vI 0] 79)):=(Fr.refl [] w).alloc _;have h0:(w.alloc (.cells #[vI 0,vI 0,vE,vI 0] 79)).heap[w.heap.size]?=some (.cells #[vI 0,vI 0,vE,vI 0] 79 (0,0)):=Array.getElem?_push_size
  generalize (w.alloc (.cells #[vI 0,vI 0,vE,vI 0] 79))=w1 at *
  have hBw:w.heap.size≤w.heap.size:=Nr' _;generalize hB:w.heap.size=B at h0 hBw ⊢;refine(B5 _ _).mono ?_;rintro e x1 ⟨rfl,rfl⟩;go_wp2_with fail;refine(Ch _ _).mono ?_;rintro e x1 ⟨rfl,rfl⟩;go_wp2_with fail;refine(Dn _ _).mono ?_;rintro e x1 ⟨rfl,rfl⟩;go_wp2_with fail;refine(cs _).out.mono ?_;rintro e x1 ⟨rfl,f1'⟩;have f1:=Fr.of_below f1';clear f1';have g:=f1.keep h0 (fun h=>by cases h);obtain⟨c0,c1,c2,c3,z0,z1,z2,z3⟩:=Ao g;have ff:=f0.trans f1;have gz:=Jf g (vI 0) (vI 0) (.string ⟨([]:LB).toArray⟩) (vI 0);have fz:=ff.store4 hB (vI 0) (vI 0) (.string ⟨([]:LB).toArray⟩) (vI 0);clear h0 g;go_wp2_with fail;generalize (((x1.setCell ⟨B,0,none⟩ (vI 0)).setCell ⟨B,1,none⟩ (vI 0)).setCell ⟨B,2,none⟩ (.string ⟨([]:LB).toArray⟩)).setCell ⟨B,3,none⟩ (vI 0)=Z at gz fz ⊢;obtain⟨d0,d1,d2,d3,_⟩:=Ao gz;refine bodyPost_ret (v:=.tuple #[Ez 0 0 ([]:LB) 0,vI ((0:Nat):Int),vI 20]) ?_ rfl ?_
  ·simp[results,Tryz.f73,go_sem,Ez,d0,d1,d2,d3]
  ·exact⟨Gl rfl,fz⟩
 | some X =>
  have hx:¬ X=[]:=by
   have:=(Fw X (List.mem_of_find?_eq_some hq)).1;intro h;subst h;simp at this
  have hx0:X.isEmpty=false:=by cases X with|nil=>exact absurd rfl hx|cons _ _=>rfl
  have hx2:(ByteArray.mk X.toArray).toList=X:=by rw[ByteArray.toList_eq]
  have e1:¬ (ByteArray.mk X.toArray).toList=[]:=by rw[hx2];exact hx
  have e0:(ByteArray.mk X.toArray).toList.isEmpty=false:=by rw[hx2];exact hx0
  rw[Jy hq] at cs;clear hq hx2;simp only;go_enter func73,ntmps73;go_wp2_with fail;have f0:Fr [] w (w.alloc (.cells #[vI 0,vI 0,vE,vI 0] 79)):=(Fr.refl [] w).alloc _;have h0:(w.alloc (.cells #[vI 0,vI 0,vE,vI 0] 79)).heap[w.heap.size]?=some (.cells #[vI 0,vI 0,vE,vI 0] 79 (0,0)):=Array.getElem?_push_size
  generalize (w.alloc (.cells #[vI 0,vI 0,vE,vI 0] 79))=w1 at *
  have hBw:w.heap.size≤w.heap.size:=Nr' _;generalize hB:w.heap.size=B at h0 hBw ⊢;refine(B5 _ _).mono ?_;rintro e x1 ⟨rfl,rfl⟩;go_wp2_with fail;refine(Ch _ _).mono ?_;rintro e x1 ⟨rfl,rfl⟩;go_wp2_with fail;refine(Dn _ _).mono ?_;rintro e x1 ⟨rfl,rfl⟩;go_wp2_with fail;refine(cs _).out.mono ?_;rintro e x1 ⟨rfl,f1'⟩;have f1:=Fr.of_below f1';clear f1';have g:=f1.keep h0 (fun h=>by cases h);obtain⟨c0,c1,c2,c3,z0,z1,z2,z3⟩:=Ao g;have ff:=f0.trans f1;have gz:=Jf g (vI 7) (vI 0) (vS X) (vI 0);have fz:=ff.store4 hB (vI 7) (vI 0) (vS X) (vI 0);clear h0 g;go_wp2_with fail;generalize (((x1.setCell ⟨B,0,none⟩ (vI 7)).setCell ⟨B,1,none⟩ (vI 0)).setCell ⟨B,2,none⟩ (vS X)).setCell ⟨B,3,none⟩ (vI 0)=Z at gz fz ⊢;obtain⟨d0,d1,d2,d3,_⟩:=Ao gz;refine bodyPost_ret (v:=.tuple #[Ez 7 0 X 0,vI ((0+X.length:Nat):Int),vI 0]) ?_ rfl ?_
  ·simp[results,Tryz.f73,go_sem,Ez,d0,d1,d2,d3]
  ·exact⟨rfl,fz⟩
theorem one_hash2(s:ByteArray)(hs:s.size≤1000000)(hp:0<s.size)(h1:Dl s[0]=false)(h2:Cf s[0]=false)(h3:s[0]=35)(h6:1<s.size)(h7:Cf s[1]=false)(h4:Co s[0]=false)(h5:s[0]≠34)(w:World)(_hE:Dx w):
  Calls prog 73 #[.string s] w fun e w'=>Kt (tok s.data.toList) 0 0 e∧Fr [] w w':=by
 have ht:tok s.data.toList=match Bf.find? (fun x=>x.isPrefixOf s.data.toList)with
   | none => .error 20
   | some x => .ok (7,x,0,x.length):=by
  conv=>lhs;rw[Eq s hp]
  rw[tok,if_neg (by simp[h1]),if_neg (by simp[h2]),if_neg ?n3,if_neg (by simp[h4]),if_neg h5,← Eq s hp]
  case n3 =>
   rintro⟨x1,x2⟩;rw[C9 s 1 h6] at x2;simp[h7] at x2
  all_goals
   cases Bf.find? (fun x=>x.isPrefixOf s.data.toList)with
   | none=>rfl
   | some x=>rfl
 rw[ht];have hsm:=Cw s[0];have hgr:=Cu s[0];have hdg:=Ev s[0];rw[h1] at hsm;rw[h2] at hgr;rw[h4] at hdg;have e34:¬ ((s[0].toNat:Nat):Int)=34:=by intro h;apply h5;apply UInt8.toNat_inj.1;have h9:(34:UInt8).toNat=34:=rfl;omega
 have b34:(((s[0].toNat:Nat):Int)==34)=false:=by rw[bN];exact e34
 have wv:wrap32 ((s[0].toNat:Nat):Int)=((s[0].toNat:Nat):Int):=by have:=s[0].toNat_lt;unfold wrap32;omega
 have cs:=fun w=>Hz (Qg s hs w)
 have b35:(((s[0].toNat:Nat):Int)==35)=true:=by rw[h3];rfl
 have e35:((s[0].toNat:Nat):Int)=35:=by rw[h3];rfl
 have l1:1<(s.size:Int):=by omega
 have hg1:=Cu s[1];rw[h7] at hg1;have wv1:wrap32 ((s[1].toNat:Nat):Int)=((s[1].toNat:Nat):Int):=by have:=s[1].toNat_lt;unfold wrap32;omega
 clear h3 h7;clear ht h1 h2 h4 h5
 cases hq:Bf.find? (fun x=>x.isPrefixOf s.data.toList)with
 | none =>
  rw[Jw hq] at cs;clear hq;simp only;go_enter func73,ntmps73;go_wp2_with fail;have f0:Fr [] w (w.alloc (.cells #[vI 0,vI 0,vE,vI 0] 79)):=(Fr.refl [] w).alloc _;have h0:(w.alloc (.cells #[vI 0,vI 0,vE,vI 0] 79)).heap[w.heap.size]?=some (.cells #[vI 0,vI 0,vE,vI 0] 79 (0,0)):=Array.getElem?_push_size
  generalize (w.alloc (.cells #[vI 0,vI 0,vE,vI 0] 79))=w1 at *
  have hBw:w.heap.size≤w.heap.size:=Nr' _;generalize hB:w.heap.size=B at h0 hBw ⊢;refine(B5 _ _).mono ?_;rintro e x1 ⟨rfl,rfl⟩;go_wp2_with fail;refine(Ch _ _).mono ?_;rintro e x1 ⟨rfl,rfl⟩;go_wp2_with fail;refine(Ch _ _).mono ?_;rintro e x1 ⟨rfl,rfl⟩;go_wp2_with fail;refine(Dn _ _).mono ?_;rintro e x1 ⟨rfl,rfl⟩;go_wp2_with fail;refine(cs _).out.mono ?_;rintro e x1 ⟨rfl,f1'⟩;have f1:=Fr.of_below f1';clear f1';have g:=f1.keep h0 (fun h=>by cases h);obtain⟨c0,c1,c2,c3,z0,z1,z2,z3⟩:=Ao g;have ff:=f0.trans f1;have gz:=Jf g (vI 0) (vI 0) (.string ⟨([]:LB).toArray⟩) (vI 0);have fz:=ff.store4 hB (vI 0) (vI 0) (.string ⟨([]:LB).toArray⟩) (vI 0);clear h0 g;go_wp2_with fail;generalize (((x1.setCell ⟨B,0,none⟩ (vI 0)).setCell ⟨B,1,none⟩ (vI 0)).setCell ⟨B,2,none⟩ (.string ⟨([]:LB).toArray⟩)).setCell ⟨B,3,none⟩ (vI 0)=Z at gz fz ⊢;obtain⟨d0,d1,d2,d3,_⟩:=Ao gz;refine bodyPost_ret (v:=.tuple #[Ez 0 0 ([]:LB) 0,vI ((0:Nat):Int),vI 20]) ?_ rfl ?_
  ·simp[results,Tryz.f73,go_sem,Ez,d0,d1,d2,d3]
  ·exact⟨Gl rfl,fz⟩
 | some X =>
  have hx:¬ X=[]:=by
   have:=(Fw X (List.mem_of_find?_eq_some hq)).1;intro h;subst h;simp at this
  have hx0:X.isEmpty=false:=by cases X with|nil=>exact absurd rfl hx|cons _ _=>rfl
  have hx2:(ByteArray.mk X.toArray).toList=X:=by rw[ByteArray.toList_eq]
  have e1:¬ (ByteArray.mk X.toArray).toList=[]:=by rw[hx2];exact hx
  have e0:(ByteArray.mk X.toArray).toList.isEmpty=false:=by rw[hx2];exact hx0
  rw[Jy hq] at cs;clear hq hx2;simp only;go_enter func73,ntmps73;go_wp2_with fail;have f0:Fr [] w (w.alloc (.cells #[vI 0,vI 0,vE,vI 0] 79)):=(Fr.refl [] w).alloc _;have h0:(w.alloc (.cells #[vI 0,vI 0,vE,vI 0] 79)).heap[w.heap.size]?=some (.cells #[vI 0,vI 0,vE,vI 0] 79 (0,0)):=Array.getElem?_push_size
  generalize (w.alloc (.cells #[vI 0,vI 0,vE,vI 0] 79))=w1 at *
  have hBw:w.heap.size≤w.heap.size:=Nr' _;generalize hB:w.heap.size=B at h0 hBw ⊢;refine(B5 _ _).mono ?_;rintro e x1 ⟨rfl,rfl⟩;go_wp2_with fail;refine(Ch _ _).mono ?_;rintro e x1 ⟨rfl,rfl⟩;go_wp2_with fail;refine(Ch _ _).mono ?_;rintro e x1 ⟨rfl,rfl⟩;go_wp2_with fail;refine(Dn _ _).mono ?_;rintro e x1 ⟨rfl,rfl⟩;go_wp2_with fail;refine(cs _).out.mono ?_;rintro e x1 ⟨rfl,f1'⟩;have f1:=Fr.of_below f1';clear f1';have g:=f1.keep h0 (fun h=>by cases h);obtain⟨c0,c1,c2,c3,z0,z1,z2,z3⟩:=Ao g;have ff:=f0.trans f1;have gz:=Jf g (vI 7) (vI 0) (vS X) (vI 0);have fz:=ff.store4 hB (vI 7) (vI 0) (vS X) (vI 0);clear h0 g;go_wp2_with fail;generalize (((x1.setCell ⟨B,0,none⟩ (vI 7)).setCell ⟨B,1,none⟩ (vI 0)).setCell ⟨B,2,none⟩ (vS X)).setCell ⟨B,3,none⟩ (vI 0)=Z at gz fz ⊢;obtain⟨d0,d1,d2,d3,_⟩:=Ao gz;refine bodyPost_ret (v:=.tuple #[Ez 7 0 X 0,vI ((0+X.length:Nat):Int),vI 0]) ?_ rfl ?_
  ·simp[results,Tryz.f73,go_sem,Ez,d0,d1,d2,d3]
  ·exact⟨rfl,fz⟩
theorem one_any(s:ByteArray)(hs:s.size≤1000000)(hp:0<s.size)(w:World)(hE:Dx w):
  Calls prog 73 #[.string s] w fun e w'=>Kt (tok s.data.toList) 0 0 e∧Fr [] w w':=by
 cases h1:Dl s[0] with
 | true=>exact one_small s hs hp h1 w hE
 | false=>cases h2:Cf s[0] with
  | true=>exact one_great s hs hp h1 h2 w hE
  | false =>
   by_cases h3:s[0]=35
   ·by_cases h6:1<s.size
    ·cases h7:Cf s[1] with
     | true=>exact one_tag s hs hp h3 h6 h7 w hE
     | false=>exact one_hash2 s hs hp h1 h2 h3 h6 h7 (by rw[h3];decide) (by rw[h3];decide) w hE
    ·exact one_hash1 s hs hp h1 h2 h3 (by omega) (by rw[h3];decide) (by rw[h3];decide) w hE
   ·cases h4:Co s[0] with
    | true=>exact one_digit s hs hp h4 w hE
    | false =>
     by_cases h5:s[0]=34
     ·exact one_quote s hs hp h5 w hE
     ·exact one_sign s hs hp h1 h2 h3 h4 h5 w hE
theorem Yf{c:UInt8}{n:Nat}(hn:n<256)(h:c≠UInt8.ofNat n):(((c.toNat:Nat):Int)==(n:Int))=false:=by
 rw[bN];intro h2;apply h;apply UInt8.toNat_inj.1;rw[UInt8.toNat_ofNat'];omega
def H3(t:Tok):List Value:=[vI t.k,vI t.at',.string ⟨t.text.toArray⟩,vI t.n]
def Jc(ts:List Tok):List Value:=ts.flatMap H3
theorem Qm(ts:List Tok)(t:Tok):Jc (ts++[t])=Jc ts++H3 t:=by simp[Jc]
def Ou(B:Nat)(v:Value)(ts:List Tok)(w:World):Prop:=w.ownsRow 0 79 4 v ts.length (Jc ts)∧∀ g,v.ownBlock=some g→B≤g
theorem Ou.fr{B:Nat}{v:Value}{ts:List Tok}{w w':World}(h:Ou B v ts w)(hf:Fr [] w w'):Ou B v ts w':=⟨I7 h.1 hf (fun _ _ h=>by cases h),h.2⟩
theorem Ou.nil_(B:Nat)(w:World):Ou B (vZ) [] w:=⟨⟨by simp[Jc],.inl ⟨rfl,rfl⟩⟩,fun g hg=>by simp[Value.ownBlock] at hg⟩
theorem Ou.none(w:World):Ou w.heap.size (.slice (some ⟨w.heap.size,0,none⟩) 0 0) [] (w.alloc (.cells #[] 79)):=
 ⟨World.ownsRow_lit w #[] 0 (Nat.zero_le _) (by decide) rfl,fun g hg=>by simp[Value.ownBlock] at hg;omega⟩
theorem infoTok:(prog.info? 79).map (fun i=>(i.zero,i.size,i.bytes))=some (some (.agg #[vI 0,vI 0,vE,vI 0]),4,40):=by kernel_rfl
theorem V5(w:World)(b:Nat)(a0 a1 a2 a3:Value)(T:TypeId)(h:w.heap[b]?=some (.cells #[a0,a1,a2,a3] T (0,0))):∀ (j:Nat)(u:Value),[a0,a1,a2,a3][j]?=some u→w.cell? ((⟨b,0,Option.none⟩:Addr).add j)=some u:=by
 intro j u hj;have hc:=Ae h
 match j,hj with
 | 0,hj=>rw[show(⟨b,0,Option.none⟩:Addr).add 0=⟨b,0,Option.none⟩ by simp[Addr.add],hc];simpa using hj
 | 1,hj=>rw[show(⟨b,0,Option.none⟩:Addr).add 1=⟨b,1,Option.none⟩ by simp[Addr.add],hc];simpa using hj
 | 2,hj=>rw[show(⟨b,0,Option.none⟩:Addr).add 2=⟨b,2,Option.none⟩ by simp[Addr.add],hc];simpa using hj
 | 3,hj=>rw[show(⟨b,0,Option.none⟩:Addr).add 3=⟨b,3,Option.none⟩ by simp[Addr.add],hc];simpa using hj
 | j+4,hj=>simp at hj
def Ys(r:Except (Int×Nat) (List Tok))(B:Nat)(e:Ending)(w':World):Prop:=match r with
 | .error (er,p)=>e = .returned (.tuple #[vZ,vI er,vI p])
 | .ok ts=>∃ v,e = .returned (.tuple #[v,vI 0,vI 0])∧Ou B v ts w'
def Gi(s:ByteArray)(i:Nat):Except (Int×Nat) (List Tok):=E1 s.size i (s.data.toList.drop i)
def J1(ts:List Tok):Except (Int×Nat) (List Tok)→Except (Int×Nat) (List Tok)
 | .error e => .error e
 | .ok ys => .ok (ts++ys)
theorem P5(s:ByteArray)(h:s.size≤4096):Da s.data.toList=Gi s 0:=by
 unfold Da Gi;rw[if_neg (by rw[Ba];omega),List.drop_zero,Ba]
theorem restL_end(s:ByteArray):Gi s s.size = .ok [⟨0,s.size,[],0⟩]:=by
 unfold Gi;rw[List.drop_of_length_le (by rw[Ba];exact Nr' _)];cases s.size <;> rfl
theorem Vq(s:ByteArray)(i:Nat)(h:i<s.size)(hc:s[i]=32∨s[i]=10):Gi s i=Gi s (i+1):=by
 unfold Gi;rw[C9 s i h]
 obtain⟨f,hf⟩:∃ f,s.size=f+1:=⟨s.size-1,by omega⟩
 rw[J8 s.size s.size (f+1) (i+1) (s.data.toList.drop (i+1)) (by rw[Dv];omega) (by rw[Dv];omega) (by rw[Dv];omega),J8 s.size (f+1) f (i+1) (s.data.toList.drop (i+1)) (by rw[Dv];omega) (by rw[Dv];omega) (by rw[Dv];omega),hf,E1,if_pos hc]
theorem restL_err(s:ByteArray)(i:Nat)(h:i<s.size)(hc:¬ (s[i]=32∨s[i]=10)){e:Int}(ht:tok (s.data.toList.drop i)= .error e):Gi s i = .error (e,i):=by
 unfold Gi;rw[C9 s i h] at ht ⊢
 obtain⟨f,hf⟩:∃ f,s.size=f+1:=⟨s.size-1,by omega⟩
 rw[hf,E1,if_neg hc,ht]
theorem restL_tok(s:ByteArray)(i:Nat)(h:i<s.size)(hc:¬ (s[i]=32∨s[i]=10)){k:Int}{t:LB}{n:Int}{m:Nat}(ht:tok (s.data.toList.drop i)= .ok (k,t,n,m))(ts:List Tok):
  J1 ts (Gi s i)=J1 (ts++[⟨k,i,t,n⟩]) (Gi s (i+m)):=by
 have hm:=Ig ht;rw[Dv] at hm
 have e2:Gi s (i+m)=E1 (s.size-1) (i+m) (s.data.toList.drop (i+m)):=by
  unfold Gi;exact J8 s.size _ _ _ _ (by rw[Dv];omega) (by rw[Dv];omega) (by rw[Dv];omega)
 rw[e2];unfold Gi;have hd:(s.data.toList.drop i).drop m=s.data.toList.drop (i+m):=by rw[List.drop_drop]
 rw[C9 s i h] at ht hd ⊢
 obtain⟨f,hf⟩:∃ f,s.size=f+1:=⟨s.size-1,by omega⟩
 rw[show E1 s.size i=E1 (f+1) i by rw[hf],E1,if_neg hc,ht];simp only[hd];rw[show s.size-1=f by omega]
 cases E1 f (i+m) (s.data.toList.drop (i+m))with
 | error e=>rfl
 | ok ys=>simp[J1]
theorem R9(r:Except (Int×Nat) (List Tok)):J1 [] r=r:=by cases r <;> rfl
theorem Lex_big(s:ByteArray)(hs:s.size≤9223372036854775807)(hb:4096<s.size)(w:World):
  Calls prog 39 #[.string s] w fun e w'=>Ys (Da s.data.toList) w.heap.size e w'∧Fr [] w w':=by
 have h0:Da s.data.toList = .error (4,0):=by unfold Da;rw[if_pos (by rw[Ba];exact hb)]
 rw[h0];go_enter func39,ntmps39;go_wp2_with fail
 go_ret3
 exact⟨rfl,Fr.refl _ _⟩
theorem Zd(s:ByteArray)(hs:s.size≤4096)(w:World)(hE:Dx w):
  Calls prog 39 #[.string s] w fun e w'=>Ys (Da s.data.toList) w.heap.size e w'∧Fr [] w w':=by
 obtain⟨i0,hi,hz0,hz1,hz2⟩:=info_parts infoTok;have H0:=Hz ((R9 _).symm.trans (congrArg (J1 []) (P5 s hs)).symm).symm;have HA:Hid (J1 [] (Gi s 0)=Da s.data.toList):=Hz (by rw[R9,P5 s hs]);clear H0
 generalize Da s.data.toList=R at *
 go_enter func39,ntmps39;go_wp2_with fail
 go_loopw [5,6] (fun v i wr=>∃ (k:Nat) (ts:List Tok),k≤s.size∧i=vI k∧Ou w.heap.size v ts wr∧ts.length≤k∧Fr [] w wr∧Hid (J1 ts (Gi s k)=R)) (fun _ i _=>s.size-(intOf i).toNat)
 case atStart=>exact⟨0,[],Nat.zero_le _,rfl,Ou.nil_ _ _,Nr' _,Fr.refl _ _,HA⟩
 case round =>
  obtain⟨k,ts,hk,rfl,⟨hown,hog⟩,hlen,hf,HR⟩:=hrel;clear HA;by_cases hlt:k<s.size
  ·by_cases hbl:s[k]=32∨s[k]=10
   ·have HR2:Hid (J1 ts (Gi s (k+1))=R):=Hz (by rw[← Vq s k hlt hbl];exact HR.out)
    have key:(((s[k].toNat:Nat):Int)==32)=true∨((((s[k].toNat:Nat):Int)==32)=false∧(((s[k].toNat:Nat):Int)==10)=true):=by
     rcases hbl with h|h
     ·left;rw[h];rfl
     ·right;rw[h];exact⟨rfl,rfl⟩
    clear hbl
    rcases key with b1|⟨b1,b2⟩
    all_goals
     go_wp2_with fail
     go_roundw
     case rel=>exact⟨k+1,ts,by omega,by go_num,⟨hown,hog⟩,by omega,hf,HR2⟩
     case measure=>simp[intOf];omega
   ·have b1:(((s[k].toNat:Nat):Int)==32)=false:=Yf (n:=32) (by omega) (fun h=>hbl (.inl h));have b2:(((s[k].toNat:Nat):Int)==10)=false:=Yf (n:=10) (by omega) (fun h=>hbl (.inr h));have hx:(s.extract k s.size).data.toList=s.data.toList.drop k:=by rw[Lib.extract_to_end s k]
    have hxs:(s.extract k s.size).size=s.size-k:=by rw[← Ba,hx,Dv]
    have c1:=fun w hE=>Hz (one_any (s.extract k s.size) (by omega) (by omega) w hE)
    rw[hx] at c1;have hEr:=hE.fr hf;clear hx hxs
    cases ht:tok (s.data.toList.drop k)with
    | error er =>
     have hR:=Hz (HR.out.symm.trans (congrArg (J1 ts) (restL_err s k hlt hbl ht)));have her:¬ er=0:=by rcases V2 ht with h|h <;> omega
     rw[ht] at c1;clear ht hbl HR;go_wp2_with fail;refine(c1 _ hEr).out.mono ?_;rintro e x1 ⟨⟨ek,ea,et,en,v2,rfl⟩,f1⟩;unfold Ez;go_wp2_with fail
     go_ret3
     refine⟨?_,(hf.trans f1).alloc _⟩;rw[hR.out]
     exact rfl
    | ok x =>
     obtain⟨kd,tx,n,m⟩:=x;have hm:=Ig ht;rw[Dv] at hm;have HR2:Hid (J1 (ts++[⟨kd,k,tx,n⟩]) (Gi s (k+m))=R):=Hz (by rw[← restL_tok s k hlt hbl ht];exact HR.out);rw[ht] at c1;clear ht hbl HR;go_wp2_with fail;refine(c1 _ hEr).out.mono ?_;rintro e x1 ⟨he,f1⟩;have he:e = .returned (.tuple #[Ez kd 0 tx n,vI ((0+m:Nat):Int),vI 0]):=he;rw[Nat.zero_add] at he;subst he;unfold Ez;have hown1:=I7 hown f1 (fun _ _ h=>by cases h);go_wp2_with (at_builtin;refine Fj _ rfl _ _ 71 rfl 79 i0 _ 4 40 underlying71 hi hz0 hz1 hz2 rfl (by decide) _ _ _ rfl ((hown1.alloc _).alloc _) ⟨x1.heap.size+1,0,none⟩ 1 1 [vI kd,vI k,vS tx,vI n] rfl rfl ?c1 ?c2 ?c3 ?c4 ?_)
     case c1 =>
      refine V5 _ _ _ _ _ _ 79 ?_;have:=Ad (x1.alloc (.cells #[vI kd,vI k,vS tx,vI n] 79)) (.cells #[vI kd,vI k,vS tx,vI n] 79);rw[World.size_alloc] at this;exact this
     case c2=>intro u hu;simp at hu;rcases hu with rfl|rfl|rfl|rfl <;> rfl
     case c3=>unfold maxLen;omega
     case c4=>omega
     intro v' w2 hown2 hgrow hfp;have hf2:Fr [] w w2:=(((hf.trans f1).alloc _).alloc _).append hgrow (fun g hg => .inr (hog g hg))
     have hog2:∀ g,v'.ownBlock=some g→w.heap.size≤g:=fun g hg=>by
      rcases hfp g hg with h|h
      ·exact hog g h
      ·have:=hf.size;have:=f1.size;(try simp only[World.size_alloc] at h);omega
     have hown3:w2.ownsRow 0 79 4 v' (ts++[(⟨kd,k,tx,n⟩:Tok)]).length (Jc (ts++[(⟨kd,k,tx,n⟩:Tok)])):=by
      rw[Qm,La'];exact hown2
     clear hown2 hgrow hfp hown1 hown;go_wp2_with fail
     go_roundw
     case rel=>exact⟨k+m,ts++[⟨kd,k,tx,n⟩],by omega,by go_num,⟨hown3,hog2⟩,by rw[La',List.length_singleton];omega,hf2,HR2⟩
     case measure=>simp[intOf];omega
  ·have hke:k=s.size:=by omega
   subst hke;have hR:=Hz (HR.out.symm.trans (congrArg (J1 ts) (restL_end s)));go_wp2_with (at_builtin;refine Fj _ rfl _ _ 71 rfl 79 i0 _ 4 40 underlying71 hi hz0 hz1 hz2 rfl (by decide) _ _ _ rfl (hown.alloc _) ⟨wr.heap.size,0,none⟩ 1 1 [vI 0,vI s.size,vE,vI 0] rfl rfl ?d1 ?d2 ?d3 ?d4 ?_)
   case d1=>exact V5 _ _ _ _ _ _ 79 (Ad wr _)
   case d2=>intro u hu;simp at hu;rcases hu with rfl|rfl|rfl|rfl <;> rfl
   case d3=>unfold maxLen;omega
   case d4=>omega
   intro v' w2 hown2 hgrow hfp;have hf2:Fr [] w w2:=(hf.alloc _).append hgrow (fun g hg => .inr (hog g hg))
   have hog2:∀ g,v'.ownBlock=some g→w.heap.size≤g:=fun g hg=>by
    rcases hfp g hg with h|h
    ·exact hog g h
    ·have:=hf.size;(try simp only[World.size_alloc] at h);omega
   have hown3:w2.ownsRow 0 79 4 v' (ts++[(⟨0,s.size,[],0⟩:Tok)]).length (Jc (ts++[(⟨0,s.size,[],0⟩:Tok)])):=by
    rw[Qm,La'];exact hown2
   clear hown2 hgrow hfp hown;go_wp2_with fail
   go_ret3
   refine⟨?_,hf2⟩;rw[hR.out];exact⟨v',rfl,hown3,hog2⟩
theorem Lex_any(s:ByteArray)(hs:s.size≤9223372036854775807)(w:World)(hE:Dx w):
  Calls prog 39 #[.string s] w fun e w'=>Ys (Da s.data.toList) w.heap.size e w'∧Fr [] w w':=by
 by_cases h:s.size≤4096
 ·exact Zd s h w hE
 ·exact Lex_big s hs (by omega) w
structure RT (g:Nat)(ts:List Tok)(w:World):Prop where
 c0:∀ (k:Nat) (t:Tok),ts[k]?=some t→w.cell? ⟨g,k * 4,none⟩=some (vI t.k)
 c1:∀ (k:Nat) (t:Tok),ts[k]?=some t→w.cell? ⟨g,k * 4+1,none⟩=some (vI t.at')
 c2:∀ (k:Nat) (t:Tok),ts[k]?=some t→w.cell? ⟨g,k * 4+2,none⟩=some (.string ⟨t.text.toArray⟩)
 c3:∀ (k:Nat) (t:Tok),ts[k]?=some t→w.cell? ⟨g,k * 4+3,none⟩=some (vI t.n)
theorem V8:∀ (ts:List Tok)(k j:Nat)(t:Tok),ts[k]?=some t→j<4→(Jc ts)[k * 4+j]?=(H3 t)[j]?
 | [],k,j,t,h,_=>by simp at h
 | u::ts,0,j,t,h,hj=>by
  simp at h;subst h;have e:Jc (u::ts)=H3 u++Jc ts:=rfl
  rw[e,Nat.zero_mul,Nat.zero_add,List.getElem?_append_left (by simp[H3];omega)]
 | u::ts,k+1,j,t,h,hj=>by
  have e:Jc (u::ts)=H3 u++Jc ts:=rfl;have h':ts[k]?=some t:=by simpa using h
  have hl:(H3 u).length=4:=rfl;rw[e,List.getElem?_append_right (by rw[hl];omega),hl,← V8 ts k j t h' hj]
  congr 1
  omega
theorem Zw{B:Nat}{v:Value}{ts:List Tok}{w:World}(h:Ou B v ts w)(hne:ts≠[]):∃ g c,v = .slice (some ⟨g,0,none⟩) ts.length c∧B≤g∧g<w.heap.size∧RT g ts w:=by
 have hl:0<ts.length:=List.length_pos_iff.2 hne;obtain⟨g,cap,hv,_,hlt⟩:=World.ownsRow.form h.1 hl;subst hv;have hc:=fun(k j:Nat) (t:Tok) (hk:ts[k]?=some t) (hj:j<4)=>(World.ownsRow.cellAt h.1 (k * 4+j) (by have:=(List.getElem?_eq_some_iff.1 hk).1;omega)).trans (V8 ts k j t hk hj)
 exact⟨g,cap,rfl,h.2 g rfl,hlt,⟨fun k t hk=>hc k 0 t hk (by omega),fun k t hk=>hc k 1 t hk (by omega),fun k t hk=>hc k 2 t hk (by omega),fun k t hk=>hc k 3 t hk (by omega)⟩⟩
theorem RT.fr{g:Nat}{ts:List Tok}{w w':World}(h:RT g ts w)(hf:Fr [] w w')(hg:g<w.heap.size):RT g ts w' :=
 ⟨fun k t hk=>(hf.cell (p:=⟨g,k * 4,none⟩) hg (fun x=>by cases x)).trans (h.c0 k t hk),fun k t hk=>(hf.cell (p:=⟨g,k * 4+1,none⟩) hg (fun x=>by cases x)).trans (h.c1 k t hk),fun k t hk=>(hf.cell (p:=⟨g,k * 4+2,none⟩) hg (fun x=>by cases x)).trans (h.c2 k t hk),fun k t hk=>(hf.cell (p:=⟨g,k * 4+3,none⟩) hg (fun x=>by cases x)).trans (h.c3 k t hk)⟩
theorem tok_bd{l:LB}{k:Int}{t:LB}{n:Int}{m:Nat}(h:tok l = .ok (k,t,n,m)):t.length≤l.length∧0≤n∧n≤4611686018427387903:=by
 have hr:∀ x,0≤C8 x∧C8 x≤4611686018427387903:=by
  intro x;unfold C8;split
  ·rename_i h;omega
  ·omega
 unfold tok at h;split at h
 ·cases h
 ·rename_i c r
  have hle:=Ic (c::r);have hle2:=Ic r;split at h
  ·simp only[Except.ok.injEq,Prod.mk.injEq] at h;obtain⟨_,rfl,rfl,_⟩:=h;omega
  ·split at h
   ·simp only[Except.ok.injEq,Prod.mk.injEq] at h;obtain⟨_,rfl,rfl,_⟩:=h;omega
   ·split at h
    ·simp only[Except.ok.injEq,Prod.mk.injEq] at h;obtain⟨_,rfl,rfl,_⟩:=h;simp only[Lc'];omega
    ·split at h
     ·split at h
      ·simp only[Except.ok.injEq,Prod.mk.injEq] at h;obtain⟨_,rfl,rfl,_⟩:=h;have:=hr (Cc (c::r));exact⟨by simp,this.1,this.2⟩
      ·cases h
     ·split at h
      ·split at h
       ·cases h
       ·rename_i j hq
        split at h
        ·cases h
        ·rename_i u hu
         simp only[Except.ok.injEq,Prod.mk.injEq] at h;obtain⟨_,rfl,rfl,_⟩:=h;have h1:=Mf hu;have h2:=Kr u;have h3:=congrArg List.length h1;simp only[C7,Lc',La',List.length_take] at h3;simp only[Lc'];omega
      ·split at h
       ·cases h
       ·rename_i x hx
        simp only[Except.ok.injEq,Prod.mk.injEq] at h;obtain⟨_,rfl,rfl,_⟩:=h;have hp:=(List.isPrefixOf_iff_prefix.1 (List.find?_some (p:=fun x:LB=>x.isPrefixOf (c::r)) hx)).length_le;omega
structure Yc (M:Nat)(t:Tok):Prop where
 k0:0≤t.k
 k1:t.k≤7
 a:t.at'≤M
 x:t.text.length≤M
 n0:0≤t.n
 n1:t.n≤4611686018427387903
 l:(Gr t.k t.text t.n).length≤M
theorem lexL_bd{f a:Nat}{l:LB}{ts:List Tok}(h:E1 f a l = .ok ts):ts.length≤l.length+1∧∀ t ∈ ts,Yc (a+l.length) t:=by
 refine Jm (P:=fun a l ts=>ts.length≤l.length+1∧∀ t ∈ ts,Yc (a+l.length) t) ?_ ?_ ?_ f a l ts h
 ·intro a;refine⟨by simp,fun t ht=>?_⟩;rw[List.mem_singleton] at ht;subst ht;exact⟨Int.le_refl 0,by simp only;omega,by simp,by simp,Int.le_refl 0,by simp only;omega,by simp[Gr]⟩
 ·rintro a c r ts _ ⟨h1,h2⟩;refine⟨by rw[Lc'];omega,fun t ht=>?_⟩;have:=h2 t ht;rw[Lc',show a+(r.length+1)=a+1+r.length by omega];exact this
 ·rintro a c r k t n m ts _ ht ⟨h1,h2⟩;have hm:=Ig ht;have hk:=V3 ht;have hb:=tok_bd ht;have hl:=V4 ht;rw[List.length_drop] at h1;refine⟨by rw[Lc'];omega,fun u hu=>?_⟩;rcases List.mem_cons.1 hu with rfl|hu
  ·exact⟨by simp only;omega,hk.2,by simp only;omega,by simp only;omega,hb.2.1,hb.2.2,by simp only;omega⟩
  ·have:=h2 u hu;rw[List.length_drop,show a+m+((c::r).length-m)=a+(c::r).length by omega] at this;exact this
theorem L4{s:LB}{ts:List Tok}(h:Da s = .ok ts):s.length≤4096∧E1 s.length 0 s = .ok ts∧ts.length≤4097∧(∀ t ∈ ts,Yc 4096 t)∧∃ ys,ts=ys++[⟨0,s.length,[],0⟩]∧∀ y ∈ ys,GoodT y:=by
 unfold Da at h;split at h
 ·cases h
 ·rename_i hs
  have hb:=lexL_bd h;obtain⟨ys,hy,hg⟩:=Z5 h;refine⟨by omega,h,by omega,fun t ht=>?_,ys,by rw[hy,Nat.zero_add],hg⟩;have:=hb.2 t ht;exact⟨this.k0,this.k1,by have:=this.a;omega,by have:=this.x;omega,this.n0,this.n1,by have:=this.l;omega⟩
theorem Ms{s:LB}{e:Int}{p:Nat}(h:Da s = .error (e,p)):(4096<s.length∧e=4∧p=0)∨(s.length≤4096∧p<s.length∧(e=20∨e=2)∧E1 s.length 0 s = .error (e,p)):=by
 unfold Da at h;split at h
 ·rename_i hs;cases h;exact .inl ⟨hs,rfl,rfl⟩
 ·rename_i hs
  have:=Pn s.length 0 s e p (Nr' _) h;exact .inr ⟨by omega,by omega,this.2.2,h⟩
def lexF(r:Except (Int×Nat) (List Tok))(e:Ending)(w':World):Prop:=match r with
 | .error (er,p)=>e = .returned (.tuple #[vZ,vI er,vI p])
 | .ok ts=>∃ g c,e = .returned (.tuple #[.slice (some ⟨g,0,none⟩) ts.length c,vI 0,vI 0])∧g<w'.heap.size∧RT g ts w'
theorem lexF_of{s:LB}{B:Nat}{e:Ending}{w':World}(h:Ys (Da s) B e w'):lexF (Da s) e w':=by
 cases hl:Da s with
 | error x=>rw[hl] at h;exact h
 | ok ts =>
  rw[hl] at h;obtain⟨v,rfl,hO⟩:=h;obtain⟨_,_,_,_,ys,rfl,_⟩:=L4 hl;obtain⟨g,c,rfl,_,hg,hR⟩:=Zw hO (by simp);exact⟨g,c,rfl,hg,hR⟩
theorem Lex_f(s:ByteArray)(hs:s.size≤9223372036854775807)(w:World)(hE:Dx w):
  Calls prog 39 #[.string s] w fun e w'=>lexF (Da s.data.toList) e w'∧Fr [] w w' :=
 (Lex_any s hs w hE).mono fun _ _ h=>⟨lexF_of h.1,h.2⟩
theorem Lex_ok(s:ByteArray)(hs:s.size≤9223372036854775807){ts:List Tok}(h:Da s.data.toList = .ok ts)(w:World)(hE:Dx w):
  Calls prog 39 #[.string s] w fun e w'=>(∃ g c,e = .returned (.tuple #[.slice (some ⟨g,0,none⟩) ts.length c,vI 0,vI 0])∧g<w'.heap.size∧RT g ts w')∧Fr [] w w' :=
 (Lex_f s hs w hE).mono fun _ _ h'=>by rw[h] at h';exact h'
theorem Lex_er(s:ByteArray)(hs:s.size≤9223372036854775807){er:Int}{p:Nat}(h:Da s.data.toList = .error (er,p))(w:World)(hE:Dx w):
  Calls prog 39 #[.string s] w fun e w'=>e = .returned (.tuple #[vZ,vI er,vI p])∧Fr [] w w' :=
 (Lex_f s hs w hE).mono fun _ _ h'=>by rw[h] at h';exact h'
end Go.Proofs.YtabhpdhajajoiaaGreatDoor
