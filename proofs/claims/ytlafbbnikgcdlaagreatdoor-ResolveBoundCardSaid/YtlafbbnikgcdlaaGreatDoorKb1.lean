/- A part of the proof: Fr, Wp, Lp, Lq, Lr, Pm, Ap, W6, Lg, Mp. -/
import Derived.WalkKit
import Derived.WalkSpells
import Derived.WalkLawsBesides
import Derived.Sort.Grow
import Derived.Lib.Hide
import Derived.Lib.ItoaNum
import Derived.Lib.SlTrimSet
import Derived.Lib.ParseIntB
import Derived.Lib.AppendStr
import Derived.Lib.Builder
import Derived.Lib.Bytes
import Derived.Test.YtlafbbnikgcdlaaGreatDoorRows
import Derived.Test.YtlafbbnikgcdlaaGreatDoorShelf
import Derived.Laws.BytesString
import Derived.Laws.BytesArg
import Derived.Lib.ItoaLen
import Derived.RangeFuncNested
import Derived.RangeFuncBound
import Derived.RangeFuncCalls
import Derived.RangeFuncLeaves
import Derived.Shelf.Abstract
import Derived.Shelf.RegionOpen
import Derived.OwnWalkIn
import Derived.TacticsInMore
import Derived.LoopNIn
import Derived.LoopIn
import Derived.Test.YtlafbbnikgcdlaaGreatDoorKb0
namespace Go.Proofs.YtlafbbnikgcdlaaGreatDoor
open Go.RowKit
open _root_.Go.Proofs.Tryz
set_option linter.all false
set_option maxHeartbeats 16000000
set_option maxRecDepth 100000
variable{p:Prop}
open List renaming length_cons→Lc',length_append→La',getElem?_eq_getElem→Lg',mem_cons_self→Lm',cons_append→Lp',append_assoc→Ls'
open Nat renaming lt_of_lt_of_le→Nl',le_refl→Nr'
open Bool renaming and_eq_true→Ba'
structure Fr (L:List Nat)(w w':World):Prop where
 os:w'.os=w.os
 tape:w'.tape=w.tape
 output:w'.output=w.output
 size:w.heap.size≤w'.heap.size
 block:∀ k,k<w.heap.size→k ∉ L→w'.heap[k]?=w.heap[k]?
theorem Fr.refl(L:List Nat)(w:World):Fr L w w:=⟨rfl,rfl,rfl,Nr' _,fun _ _ _=>rfl⟩
theorem Fr.step{L L':List Nat}{a b c:World}(h:Fr L a b)(k:Fr L' b c)(hL:∀ x ∈ L',x ∈ L∨a.heap.size≤x):Fr L a c :=
 ⟨k.os.trans h.os,k.tape.trans h.tape,k.output.trans h.output,Nat.le_trans h.size k.size,fun i hi hn =>
  (k.block i (Nl' hi h.size) (fun hx=>(hL i hx).elim hn (fun h'=>by omega))).trans (h.block i hi hn)⟩
theorem Fr.trans{L:List Nat}{a b c:World}(h:Fr L a b)(k:Fr L b c):Fr L a c:=h.step k fun _ hx => .inl hx
theorem Fr.trans0{L:List Nat}{a b c:World}(h:Fr L a b)(k:Fr [] b c):Fr L a c:=h.step k fun _ hx=>by cases hx
theorem Fr.mono{L L':List Nat}{a b:World}(h:Fr L a b)(hL:∀ x ∈ L,x ∈ L'∨a.heap.size≤x):Fr L' a b :=
 ⟨h.os,h.tape,h.output,h.size,fun i hi hn=>h.block i hi (fun hx=>(hL i hx).elim hn (fun h'=>by omega))⟩
theorem Fr.drew{L:List Nat}{a w:World}(h:Fr L a w):Fr L a w.drew:=⟨h.os,h.tape,h.output,h.size,h.block⟩
theorem Fr.drewN{L:List Nat}{a w:World}(h:Fr L a w)(n:Nat):Fr L a (w.drewN n):=h.trans ⟨rfl,rfl,rfl,Nr' _,fun _ _ _=>rfl⟩
theorem Fr.alloc{L:List Nat}{a w:World}(h:Fr L a w)(o:Obj):Fr L a (w.alloc o):=
 h.trans ⟨rfl,rfl,rfl,sM,fun k hk _=>Below.heap_alloc _ _ _ hk⟩
theorem Fr.setCell{L:List Nat}{a w:World}(h:Fr L a w){p:Addr}(hp:p.block ∈ L∨a.heap.size≤p.block)(u:Value):Fr L a (w.setCell p u):=
 h.step (L':=[p.block]) ⟨rfl,rfl,rfl,by simp[World.setCell],fun k _ hk=>Below.heap_setCell _ _ _ _ (fun e=>hk (by simp[e]))⟩ (fun x hx=>by simp at hx;subst hx;exact hp)
theorem Fr.grown{L:List Nat}{a w w':World}{row:Option Nat}(h:Fr L a w)(hg:w.grownBy w' row)(hr:∀ k,row=some k→k ∈ L∨a.heap.size≤k):Fr L a w' :=
 h.step (L':=row.toList) ⟨hg.os,hg.tape,hg.output,hg.size,fun k hk hn=>hg.block k hk (fun e=>hn (by rw[← e];simp))⟩
  (fun x hx=>hr x (by cases row with|none=>simp at hx|some y=>simp at hx;rw[hx]))
theorem Fr.of_below{w w':World}(h:Below w.heap.size w w'):Fr [] w w':=⟨h.os,h.tape,h.output,h.size,fun k hk _=>h.block k hk⟩
theorem Fr.below{L:List Nat}{B:Nat}{w w':World}(h:Fr L w w')(hB:B≤w.heap.size)(hL:∀ x ∈ L,B≤x):Below B w w' :=
 ⟨h.os,h.tape,h.output,h.size,fun k hk=>h.block k oM (fun hx=>by have:=hL k hx;omega)⟩
theorem Fr.below0{w w':World}(h:Fr [] w w'):Below w.heap.size w w':=h.below (Nr' _) (fun _ hx=>by cases hx)
theorem Fr.cell{L:List Nat}{w w':World}(h:Fr L w w'){p:Addr}(hp:p.block<w.heap.size)(hn:p.block ∉ L):w'.cell? p=w.cell? p:=World.cell?_of_block (w:=w) (h.block p.block hp hn)
theorem Fr.frozen{L:List Nat}{w w':World}(h:Fr L w w'){p:Addr}(hp:p.block<w.heap.size)(hn:p.block ∉ L):w'.frozen? p=w.frozen? p:=World.frozen?_of_block (w:=w) (h.block p.block hp hn)
theorem Fr.keep{L:List Nat}{w w':World}(h:Fr L w w'){k:Nat}{o:Obj}(hk:w.heap[k]?=some o)(hn:k ∉ L):w'.heap[k]?=some o :=
 (h.block k (Array.getElem?_eq_some_iff.1 hk).1 hn).trans hk
theorem Aa{w:World}{k:Nat}{o:Obj}(hk:w.heap[k]?=some o):k<w.heap.size:=(Array.getElem?_eq_some_iff.1 hk).1
theorem Fr.grow(L:List Nat)(w:World)(os:Array Obj):Fr L w (Sort.grow w os):=
 ⟨rfl,rfl,rfl,by simp[Sort.grow],fun k hk _=>by simp[Sort.grow,Array.getElem?_append,hk]⟩
theorem Fr.of_grow{w w':World}(h:∃ k os,w'=Sort.grow (w.drewN k) os):Fr [] w w':=by
 obtain⟨k,os,rfl⟩:=h;exact((Fr.refl [] w).drewN k).trans (Fr.grow [] _ os)
theorem Ag(w:World)(o:Obj):(w.alloc o).heap[w.heap.size]?=some o:=heap_alloc_new w o
theorem Ae{w:World}{k:Nat}{o:Obj}(h:w.heap[k]?=some o)(o':Obj):(w.alloc o').heap[k]?=some o:=(heap_alloc_old w o' (Aa h)).trans h
theorem Ab{w:World}{b:Nat}{cs:Array Value}{T:TypeId}{fr:Nat×Nat}(hb:w.heap[b]?=some (.cells cs T fr))(j:Nat):w.cell? ⟨b,j,none⟩=cs[j]?:=by simp[World.cell?,hb]
theorem Ap{w:World}{b:Nat}{cs:Array Value}{T:TypeId}(hb:w.heap[b]?=some (.cells cs T (0,0)))(j:Nat):w.frozen? ⟨b,j,none⟩=false:=by simp[World.frozen?,hb]
theorem Si{a b:Bool}(h:a=b):Ending.returned (.bool a)= .returned (.bool b):=by rw[h]
theorem Bu(s:ByteArray):s.data.toList.length=s.size:=rfl
def Mw:LB:=[48,49,50,51,52,53,54,55,56,57]
def De(c:UInt8):Bool:=48≤c.toNat&&c.toNat≤57
def Gu(acc:Nat):LB→Nat
 | []=>acc
 | c::r=>Gu (acc * 10+(c.toNat-48)) r
def Gx(l:LB):Bool:=!(l.isEmpty||(l.head?==some 48&&decide (1<l.length))|| !l.all De)
def Dy(l:LB):Int:=if Gx l=true∧Gu 0 l≤4611686018427387903 then (Gu 0 l:Int)else 0
def Ft(l:LB):Int:=if Gx l=true then (if Gu 0 l≤4611686018427387903 then 0 else 2)else 5
theorem V4:∀ (l:LB)(acc:Nat),acc≤Gu acc l
 | [],acc=>Nr' _
 | c::r,acc=>Nat.le_trans oM (V4 r (acc * 10+(c.toNat-48)))
theorem Hn(c:UInt8):De c=true↔48≤c.toNat∧c.toNat≤57:=by simp[De]
theorem pu_nil(M acc:Nat):Lib.parseUintM M acc [] = .ok acc:=rfl
theorem pu_cons(M acc:Nat)(c:UInt8)(r:LB)(h:48≤c.toNat∧c.toNat≤57):Lib.parseUintM M acc (c::r)=if 1844674407370955162≤acc then .range else if M<acc * 10+(c.toNat-48)then .range else Lib.parseUintM M (acc * 10+(c.toNat-48)) r:=by
 have e:Lib.parseUintM M acc (c::r)=ite (48≤c.toNat∧c.toNat≤57) (if 1844674407370955162≤acc then .range else if M<acc * 10+(c.toNat-48)then .range else Lib.parseUintM M (acc * 10+(c.toNat-48)) r) _:=rfl;rw[e,if_pos h]
theorem Mj(M:Nat)(hM:M≤18446744073709551615):∀ (l:LB)(acc:Nat),acc≤M→l.all De=true →
  Lib.parseUintM M acc l=if Gu acc l≤M then .ok (Gu acc l)else .range
 | [],acc,ha,_=>by rw[pu_nil,show Gu acc []=acc from rfl,if_pos ha]
 | c::r,acc,ha,h=>by
  simp only[List.all_cons,Ba'] at h;have hc:=(Hn c).1 h.1;have hge:=V4 r (acc * 10+(c.toNat-48));have ev:Gu acc (c::r)=Gu (acc * 10+(c.toNat-48)) r:=rfl;rw[ev]
  have e0:Lib.parseUintM M acc (c::r)=if 1844674407370955162≤acc then .range else if M<acc * 10+(c.toNat-48)then .range else Lib.parseUintM M (acc * 10+(c.toNat-48)) r:=by
   rw[pu_cons M acc c r hc]
  rw[e0]
  generalize hq:acc * 10+(c.toNat-48)=q at *
  by_cases h1:1844674407370955162≤acc
  ·rw[if_pos h1,if_neg oM]
  ·rw[if_neg h1];by_cases h2:M<q
   ·rw[if_pos h2,if_neg oM]
   ·rw[if_neg h2];exact Mj M hM r q oM h.2
theorem H4{α:Type}(p:α→Bool)(l:List α):l.dropWhile p=[]↔∀ x ∈ l,p x=true:=by
 induction l with
 | nil=>simp
 | cons x r ih =>
  by_cases hx:p x=true
  ·rw[List.dropWhile_cons_of_pos hx,ih];simp[hx]
  ·rw[List.dropWhile_cons_of_neg hx];simp[hx]
theorem Qf(c:UInt8):Mw.contains c=De c:=by
 revert c;have h:∀ c:Fin 256,Mw.contains (UInt8.ofNat c.val)=De (UInt8.ofNat c.val):=by decide +kernel
 intro c;exact qq302
theorem O4(l:LB):Lib.trimS l Mw=[]↔l.all De=true:=by
 have hc:(fun c=>Mw.contains c)=De:=funext Qf;unfold Lib.trimS Lib.trimLeftS Lib.trimRightS;rw[hc];constructor
 ·intro h;rw[List.all_eq_true];intro x hx
  have h1:∀ y ∈ (l.reverse.dropWhile De).reverse,De y=true:=by
   intro y hy;have:=(H4 De _).1 h;exact this y hy
  have h2:∀ y ∈ l.reverse.dropWhile De,De y=true:=fun y hy=>h1 y (by simpa using hy)
  have h3:l.reverse.dropWhile De=[]:=by
   cases hd:l.reverse.dropWhile De with
   | nil=>rfl
   | cons y r =>
    have hn:=List.head?_dropWhile_not De l.reverse;rw[hd] at hn;simp at hn;have:=h2 y (by rw[hd];simp);rw[this] at hn;cases hn
  have h4:=(H4 De _).1 h3;exact h4 x (by simpa using hx)
 ·intro h;rw[List.all_eq_true] at h;have h3:l.reverse.dropWhile De=[]:=(H4 De _).2 (fun y hy=>h y (by simpa using hy));rw[h3];rfl
def Zm:LB:=[48,49,50,51,52,53,54,55,56,57,97,98,99,100,101,102]
def Kz(n:Nat):UInt8:=Zm.getD n 0
def quo(c:UInt8):LB :=
 if c=34 then [92,34] else if c=92 then [92,92] else if c=10 then [92,110]
 else if 32≤c.toNat∧c.toNat≤126 then [c] else [92,120,Kz (c.toNat / 16),Kz (c.toNat % 16)]
def C9(l:LB):LB:=l.flatMap quo
def Dr(l:LB):LB:=34::(C9 l++[34])
theorem Vo(c:UInt8):1≤(quo c).length∧(quo c).length≤4:=by
 unfold quo;by_cases h1:c=34
 ·rw[if_pos h1];decide
 ·rw[if_neg h1];by_cases h2:c=92
  ·rw[if_pos h2];decide
  ·rw[if_neg h2];by_cases h3:c=10
   ·rw[if_pos h3];decide
   ·rw[if_neg h3];by_cases h4:32≤c.toNat∧c.toNat≤126
    ·rw[if_pos h4];simp
    ·rw[if_neg h4];simp
theorem quo_ne(c:UInt8):quo c≠[]:=fun h=>by have:=(Vo c).1;rw[h] at this;simp at this
theorem N8(l:LB):(C9 l).length≤4 * l.length:=by
 induction l with
 | nil=>simp[C9]
 | cons c r ih =>
  have:=(Vo c).2;simp only[C9,List.flatMap_cons,La',Lc'] at ih ⊢;omega
def L7(c:UInt8):Int:=if Zm.contains c then (Zm.idxOf c:Int)else -1
def hexP(a b:UInt8):UInt8:=UInt8.ofNat ((L7 a * 16 % 256).toNat ||| (L7 b % 16).toNat)
def Fk:Nat→List UInt8→List UInt8
 | 0,_=>[]
 | _+1,[]=>[]
 | _+1,[_]=>[]
 | f+1,c::d::r =>
  if c≠92 then c::Fk f (d::r)
  else if d=110 then 10::Fk f r
  else if d=120∧2≤r.length then hexP (r.getD 0 0) (r.getD 1 0)::Fk f (r.drop 2)
  else d::Fk f r
theorem Pg(f:Nat)(c:UInt8)(x:LB)(hx:x≠[]):Fk (f+1) (quo c++x)=c::Fk f x:=by
 unfold quo;split
 ·exact qq200
 ·split
  ·exact qq200
  ·split
   ·exact qq200
   ·split
    ·rename_i h0 h1 h2 h3
     cases x with
     | nil=>exact absurd rfl hx
     | cons y r=>simp[Fk,h1]
    ·have hp:∀ c:Fin 256,hexP (Kz (c.val / 16)) (Kz (c.val % 16))=UInt8.ofNat c.val:=by decide +kernel
     have:=hp ⟨c.toNat,c.toNat_lt⟩;simp only[UInt8.ofNat_toNat] at this
     cases x with
     | nil=>exact absurd rfl hx
     | cons y r=>simp[Fk,this]
theorem quo_split{c d:UInt8}{x y:LB}(h:quo c++x=quo d++y):c=d∧x=y:=by
 have h1:=Pg 0 c (x++[0]) sM;have h2:=Pg 0 d (y++[0]) sM;rw[← Ls',h,Ls',h2] at h1;have hcd:c=d:=by simp only[List.cons.injEq] at h1;exact h1.1.symm
 subst hcd;exact⟨rfl,List.append_cancel_left h⟩
theorem On:∀ (l:LB)(f:Nat),l.length<f→Fk f (C9 l++[34])=l
 | [],f+1,_=>by simp[C9,Fk]
 | c::l,f+1,h=>by
  simp only[C9,List.flatMap_cons,Ls'];rw[Pg f c _ sM];have:=On l f (by simpa using h);simp only[C9] at this
  rw[this]
 | _,0,h=>by omega
def unq(s:LB):Option LB :=
 if Dr (Fk s.length (s.drop 1))=s then some (Fk s.length (s.drop 1))else none
def V3(s:LB):LB:=(unq s).getD []
def V2(s:LB):Int:=if (unq s).isSome then 0 else 5
theorem Np(l:LB):l.length≤(C9 l).length:=by
 induction l with
 | nil=>simp
 | cons c r ih =>
  have:=(Vo c).1;simp only[C9,List.flatMap_cons,La',Lc'] at ih ⊢;omega
theorem Ur(l:LB):unq (Dr l)=some l:=by
 have h:Fk (Dr l).length ((Dr l).drop 1)=l:=by
  have:=Np l;have e:(Dr l).drop 1=C9 l++[34]:=rfl;rw[e];exact On l _ (by simp[Dr];omega)
 unfold unq;rw[h,if_pos rfl]
theorem O7{s l:LB}(h:unq s=some l):Dr l=s:=by
 unfold unq at h;split at h
 ·rename_i hq
  cases h;exact hq
 ·cases h
theorem unq_iff(s l:LB):unq s=some l↔Dr l=s :=
 ⟨O7,fun h=>by rw[← h,Ur]⟩
def Ef(c:UInt8):Bool:=(decide (97≤c.toNat)&&decide (c.toNat≤122))||c==95
def C8(c:UInt8):Bool:=decide (65≤c.toNat)&&decide (c.toNat≤90)
def Dh(c:UInt8):Bool:=Ef c||C8 c||De c
def S5:List LB:=[[108,101,116],[114,101,99],[105,110],[102,117,110],[109,97,116,99,104],[119,105,116,104],[101,110,100],[105,102],[116,104,101,110],[101,108,115,101],[116,114,117,101],[102,97,108,115,101],[114,97,105,115,101],[116,114,121],[110,111,116],[114,101,102],[97,114,114,97,121],[103,101,116],[115,101,116],[108,101,110],[115,105,122,101],[98,121,116,101],[99,97,116],[103,101,116,99],[112,117,116,99]]
def B3:List LB:=[[45,62],[58,61],[38,38],[124,124],[40],[41],[123],[125],[61],[59],[44],[46],[124],[43],[45],[42],[47],[37],[60],[33]]
def Is:LB:=[32,108,101,116,32,114,101,99,32,105,110,32,102,117,110,32,109,97,116,99,104,32,119,105,116,104,32,101,110,100,32,105,102,32,116,104,101,110,32,101,108,115,101,32,116,114,117,101,32,102,97,108,115,101,32,114,97,105,115,101,32,116,114,121,32,110,111,116,32,114,101,102,32,97,114,114,97,121,32,103,101,116,32,115,101,116,32,108,101,110,32,115,105,122,101,32,98,121,116,101,32,99,97,116,32,103,101,116,99,32,112,117,116,99,32]
def Sr:LB:=[45,62,32,58,61,32,38,38,32,124,124,32,40,32,41,32,123,32,125,32,61,32,59,32,44,32,46,32,124,32,43,32,45,32,42,32,47,32,37,32,60,32,33]
def D8(s:LB):Bool:=S5.contains s
def Cy(l:LB):LB:=l.takeWhile Dh
def Aw(s:LB):Bool:=match s with
 | []=>false
 | c::_=>Ef c&&s.all Dh && !D8 s
def q2:Bool→List UInt8→Option Nat
 | _,[]=>none
 | odd,c::r=>if c=34∧odd=false then some 1 else (q2 (c==92 && !odd) r).map (·+1)
def Hx(l:LB):Option Nat:=q2 false l
theorem q2_skip(d:UInt8)(r:LB):q2 true (d::r)=(q2 false r).map (·+1):=by
 simp[q2]
theorem Mk(d:UInt8)(r:LB):Hx (92::d::r)=(Hx r).map (·+2):=by
 unfold Hx;have e:q2 false (92::d::r)=(q2 true (d::r)).map (·+1):=by rw[q2];simp
 rw[e,q2_skip];cases q2 false r <;> rfl
theorem X2(r:LB):Hx (34::r)=some 1:=by unfold Hx;rw[q2];simp
theorem Lz(c:UInt8)(r:LB)(h:c≠92)(h2:c≠34):Hx (c::r)=(Hx r).map (·+1):=by
 unfold Hx;rw[q2,if_neg (fun x=>h2 x.1),show(c==92)=false from bN.2 h];rfl
theorem qlen_one:Hx [92]=none:=by unfold Hx;rw[q2];simp[q2]
def tok(l:LB):Except Int (Int×List UInt8×Int×Nat):=match l with
 | [] => .error 20
 | c::r =>
  if Ef c=true then .ok (if D8 (Cy l)=true then 6 else 1,Cy l,0,(Cy l).length)
  else if C8 c=true then .ok (2,Cy l,0,(Cy l).length)
  else if c=35∧r.head?.any C8=true then .ok (3,Cy r,0,1+(Cy r).length)
  else if De c=true then (if Ft (Cy l)=0 then .ok (4,[],Dy (Cy l),(Cy l).length)else .error (if Ft (Cy l)=5 then 20 else Ft (Cy l)))
  else if c=34 then (match Hx r with
   | none => .error 20
   | some k=>match unq (l.take (1+k))with
    | none => .error 20
    | some t => .ok (5,t,0,1+k))
  else match B3.find? (fun x=>x.isPrefixOf l)with
   | none => .error 20
   | some x => .ok (7,x,0,x.length)
structure Tok where
 k:Int
 at':Nat
 text:LB
 n:Int
def Gq:Nat→Nat→List UInt8→Except (Int×Nat) (List Tok)
 | _,at0,[] => .ok [⟨0,at0,[],0⟩]
 | 0,at0,_::_ => .error (20,at0)
 | f+1,at0,c::r =>
  if c=32∨c=10 then Gq f (at0+1) r
  else match tok (c::r)with
   | .error e => .error (e,at0)
   | .ok (k,t,n,m)=>match Gq f (at0+m) ((c::r).drop m)with
    | .error e => .error e
    | .ok l => .ok (⟨k,at0,t,n⟩::l)
def Es(s:LB):Except (Int×Nat) (List Tok):=if 4096<s.length then .error (4,0)else Gq s.length 0 s
theorem Sj{c:UInt8}{r:LB}(h:Dh c=true):1≤(Cy (c::r)).length:=by
 unfold Cy;rw[List.takeWhile_cons_of_pos h];simp
theorem Kl(l:LB):(Cy l).length≤l.length:=(List.takeWhile_prefix _).length_le
theorem q2_le:∀ (l:LB)(o:Bool)(k:Nat),q2 o l=some k→1≤k∧k≤l.length
 | [],o,k,h=>by simp[q2] at h
 | c::r,o,k,h=>by
  rw[q2] at h;split at h
  ·cases h;simp
  ·cases e:q2 (c==92 && !o) r with
   | none=>rw[e] at h;cases h
   | some j =>
    rw[e] at h;have:=q2_le r _ j e;simp only[Option.map_some,Option.some.injEq] at h;simp only[Lc'];omega
theorem Hs:∀ x ∈ B3,1≤x.length∧x.length≤2∧32 ∉ x∧10 ∉ x:=by decide
theorem Kp{l:LB}{k:Int}{t:LB}{n:Int}{m:Nat}(h:tok l = .ok (k,t,n,m)):1≤m∧m≤l.length:=by
 unfold tok at h;split at h
 ·cases h
 ·rename_i c r
  have hle:=Kl (c::r);split at h
  ·rename_i hs
   simp only[Except.ok.injEq,Prod.mk.injEq] at h;have:=Sj (r:=r) (show Dh c=true by unfold Dh;rw[hs];rfl);omega
  ·split at h
   ·rename_i hs
    exact qq276
   ·split at h
    ·simp only[Except.ok.injEq,Prod.mk.injEq] at h;have:=Kl r;simp only[Lc'];omega
    ·split at h
     ·rename_i hs
      split at h
      ·exact qq276
      ·cases h
     ·split at h
      ·split at h
       ·cases h
       ·rename_i k' hq
        split at h
        ·cases h
        ·simp only[Except.ok.injEq,Prod.mk.injEq] at h;have:=q2_le r _ k' hq;simp only[Lc'];omega
      ·split at h
       ·cases h
       ·rename_i x hx
        simp only[Except.ok.injEq,Prod.mk.injEq] at h;have hm:=List.mem_of_find?_eq_some hx;have hp:=List.find?_some hx;have h1:=Hs x hm;have h2:=(List.isPrefixOf_iff_prefix.1 hp).length_le;omega
theorem My:∀ (n f g at0:Nat)(l:LB),l.length≤n→l.length≤f→l.length≤g→Gq f at0 l=Gq g at0 l:=by
 intro n
 induction n with
 | zero =>
  intro f g at0 l hn _ _
  exact qq316
 | succ n ih =>
  intro f g at0 l hn hf hg
  match l,hn,hf,hg with
  | [],_,_,_=>cases f <;> cases g <;> rfl
  | c::r,hn,hf,hg =>
   cases f with
   | zero=>simp at hf
   | succ f=>cases g with
    | zero=>simp at hg
    | succ g =>
     simp only[Lc'] at hn hf hg;rw[Gq,Gq];split
     ·exact ih f g _ r oM oM oM
     ·cases e:tok (c::r)with
      | error x=>rfl
      | ok x =>
       obtain⟨k,t,m,j⟩:=x;have hl:=Kp e;have:=ih f g (at0+j) ((c::r).drop j) (by simp only[List.length_drop,Lc'];omega) (by simp only[List.length_drop,Lc'];omega) (by simp only[List.length_drop,Lc'];omega);simp only[this]
theorem Y2:∀ x ∈ S5,x≠[]∧32 ∉ x:=by decide
theorem Zr(s:LB)(h0:s≠[])(hb:(32:UInt8) ∉ s):D8 s=true↔([32]++s++[32])<:+: Is:=by
 constructor
 ·intro h;have hm:s ∈ S5:=by simpa [D8] using h
  have hall:∀ x ∈ S5,(List.range 140).any (fun i=>([32]++x++[32]).isPrefixOf (Is.drop i))=true:=by decide +kernel
  obtain⟨i,_,hi⟩:=List.any_eq_true.1 (hall s hm);exact(List.isPrefixOf_iff_prefix.1 hi).isInfix.trans (List.drop_suffix i Is).isInfix
 ·rintro⟨p,q,hpq⟩;have key:∀ i:Fin Is.length,Is[i]=32→(Is.drop (i.val+1)).takeWhile (· != 32)=[]∨D8 ((Is.drop (i.val+1)).takeWhile (· != 32))=true:=by decide +kernel
  have hl:p.length<Is.length:=by rw[← hpq];simp
  have h1:Is[p.length]=32:=by
   have:Is[p.length]?=some 32:=by rw[← hpq];simp
   rw[Lg' hl] at this;simpa using this
  have h2:Is.drop (p.length+1)=s++(32::q):=by rw[← hpq];simp
  have h3:(Is.drop (p.length+1)).takeWhile (· != 32)=s:=by
   rw[h2,List.takeWhile_append_of_pos (by intro a ha;simp;intro e;exact hb (e ▸ ha))];simp
  rcases key ⟨p.length,hl⟩ h1 with h|h
  ·rw[h3] at h;exact absurd h h0
  ·rw[h3] at h;exact h
theorem Sz(l:LB)(c:UInt8):∀ acc,Gu acc (l++[c])=Gu acc l * 10+(c.toNat-48):=by
 induction l with
 | nil=>intro acc;rfl
 | cons d r ih=>intro acc;exact ih (acc * 10+(d.toNat-48))
theorem dec_val:∀ (n:Nat)(l:LB),l.length=n→l≠[]→l.all De=true→(l.head?=some 48→l.length≤1)→Lib.decDigits (Gu 0 l)=l:=by
 intro n
 induction n with
 | zero=>intro l hl h0;exact absurd (List.eq_nil_of_length_eq_zero hl) h0
 | succ n ih =>
  intro l hl h0 hd hh
  obtain⟨y,c,rfl⟩:∃ y c,l=y++[c]:=⟨l.dropLast,l.getLast h0,(List.dropLast_concat_getLast h0).symm⟩
  rw[List.all_append] at hd;simp only[List.all_cons,List.all_nil,Bool.and_true,Ba'] at hd;obtain⟨hy,hc⟩:=hd;have hc2:=(Hn c).1 hc;rw[Sz,Lib.decDigits]
  by_cases e:y=[]
  ·subst e;have:Gu 0 []=0:=rfl;rw[this,dif_pos oM];have:48+(0 * 10+(c.toNat-48))=c.toNat:=by omega
   rw[this];simp
  ·have hl2:1≤y.length:=List.length_pos_iff.2 e
   have hh2:y.head?≠some 48:=by
    intro h;have:=hh (by rw[List.head?_append,h];rfl);rw[La',List.length_singleton] at this;omega
   have hv:1≤Gu 0 y:=by
    cases y with
    | nil=>exact absurd rfl e
    | cons d r =>
     have h1:d≠48:=by simpa using hh2
     have h2:Gu 0 (d::r)=Gu (0 * 10+(d.toNat-48)) r:=rfl;rw[h2];have h3:=V4 r (0 * 10+(d.toNat-48));simp only[List.all_cons,Ba'] at hy;have h4:=(Hn d).1 hy.1;have h5:d.toNat≠48:=fun h=>h1 (UInt8.toNat_inj.1 (by rw[h];rfl))
     omega
   rw[dif_neg oM];have e1:(Gu 0 y * 10+(c.toNat-48))/ 10=Gu 0 y:=by omega
   have e2:48+(Gu 0 y * 10+(c.toNat-48)) % 10=c.toNat:=by omega
   rw[e1,e2,ih y (by simp at hl;exact hl) e hy (fun h=>absurd h hh2)];simp
theorem itoa_read{l:LB}(h:Ft l=0):Lib.itoa (Dy l)=l:=by
 unfold Ft at h;split at h
 ·rename_i hn
  split at h
  ·rename_i hv
   unfold Dy;rw[if_pos ⟨hn,hv⟩];unfold Lib.itoa;rw[if_neg oM];unfold Gx at hn;simp only[Bool.not_eq_true',Bool.or_eq_false_iff,Bool.and_eq_false_iff,Bool.not_eq_false'] at hn;have h0:l≠[]:=by intro e;subst e;simp at hn
   rw[Int.toNat_natCast]
   exact dec_val l.length l rfl h0 hn.2 (fun hh=>by
    rcases hn.1.2 with h1|h1
    ·rw[hh] at h1;simp at h1
    ·simpa using h1)
  ·cases h
 ·cases h
def Fa(c:UInt8):Bool:=c==32||c==10
def Ny(b:LB):Prop:=b=[]∨∃ c r,b=c::r∧Fa c=true
theorem Fv{c:UInt8}(h:Fa c=true):c=32∨c=10:=by simpa [Fa] using h
theorem Zb{c:UInt8}(h:Fa c=true):Dh c=false:=by
 rcases Fv h with rfl|rfl <;> decide
theorem Wl{c:UInt8}(h:Fa c=true):C8 c=false:=by
 rcases Fv h with rfl|rfl <;> decide
theorem Mr(p:UInt8→Bool)(hp:∀ c,Fa c=true→p c=false){b:LB}(hb:Ny b):∀ l:LB,(l++b).takeWhile p=l.takeWhile p
 | []=>by
  rcases hb with rfl|⟨c,r,rfl,hc⟩
  ·rfl
  ·rw[List.nil_append,List.takeWhile_cons_of_neg (by simp[hp c hc])];rfl
 | c::l=>by
  by_cases h:p c=true
  ·rw[Lp',List.takeWhile_cons_of_pos h,List.takeWhile_cons_of_pos h,Mr p hp hb l]
  ·rw[Lp',List.takeWhile_cons_of_neg h,List.takeWhile_cons_of_neg h]
theorem Uj{b:LB}(hb:Ny b)(l:LB):Cy (l++b)=Cy l:=Mr Dh (fun _ h=>Zb h) hb l
theorem q2_app(b:LB):∀ (l:LB)(o:Bool)(k:Nat),q2 o l=some k→q2 o (l++b)=some k
 | [],o,k,h=>by simp[q2] at h
 | c::l,o,k,h=>by
  rw[Lp'];rw[q2] at h ⊢;split at h
  ·rename_i hc;rw[if_pos hc];exact h
  ·rename_i hc
   rw[if_neg hc]
   cases e:q2 (c==92 && !o) l with
   | none=>rw[e] at h;cases h
   | some j=>rw[e] at h;rw[q2_app b l _ j e];exact h
theorem Ug:∀ (b:LB)(o:Bool),(∀ c ∈ b,Fa c=true)→q2 o b=none
 | [],_,_=>rfl
 | c::b,o,h=>by
  have hc:=Fv (h c (Lm' ..));rw[q2,if_neg (by rintro⟨rfl,_⟩;revert hc;decide),Ug b _ (fun x hx=>h x (List.mem_cons_of_mem _ hx))];rfl
theorem q2_none(b:LB)(hb:∀ c ∈ b,Fa c=true):∀ (l:LB)(o:Bool),q2 o l=none→q2 o (l++b)=none
 | [],o,_=>Ug b o hb
 | c::l,o,h=>by
  rw[Lp'];rw[q2] at h ⊢;split at h
  ·cases h
  ·rename_i hc
   rw[if_neg hc]
   cases e:q2 (c==92 && !o) l with
   | none=>rw[q2_none b hb l _ e];rfl
   | some j=>rw[e] at h;cases h
theorem q2_take:∀ (l:LB)(o:Bool)(k:Nat),q2 o l=some k→q2 o (l.take k)=some k
 | [],o,k,h=>by simp[q2] at h
 | c::l,o,k,h=>by
  have h':=h;rw[q2] at h;split at h
  ·rename_i hc;cases h;rw[List.take_succ_cons,q2,if_pos hc]
  ·rename_i hc
   cases e:q2 (c==92 && !o) l with
   | none=>rw[e] at h;cases h
   | some j =>
    rw[e] at h;simp only[Option.map_some,Option.some.injEq] at h;subst h;rw[List.take_succ_cons,q2,if_neg hc,q2_take l _ j e];rfl
theorem sign_ends{b:LB}(hb:Ny b){x:LB}(hx:x ∈ B3)(l:LB):x.isPrefixOf (l++b)=x.isPrefixOf l:=by
 rw[Bool.eq_iff_iff,List.isPrefixOf_iff_prefix,List.isPrefixOf_iff_prefix];obtain⟨_,_,h32,h10⟩:=Hs x hx;constructor
 ·intro h
  rcases hb with rfl|⟨c,r,rfl,hc⟩
  ·simpa using h
  ·rcases Nat.lt_or_ge l.length x.length with hl|hl
   ·exfalso;obtain⟨t,ht⟩:=h;have h1:(x++t)[l.length]?=some c:=by rw[ht];simp
    rw[List.getElem?_append_left hl] at h1;have hm:=List.mem_of_getElem? h1;rcases Fv hc with rfl|rfl
    ·exact h32 hm
    ·exact h10 hm
   ·exact List.prefix_of_prefix_length_le h (List.prefix_append l _) hl
 ·intro h;exact h.trans (List.prefix_append l b)
theorem Ro{p q:LB→Bool}:∀ (l:List LB),(∀ x ∈ l,p x=q x)→l.find? p=l.find? q
 | [],_=>rfl
 | x::l,h=>by
  rw[List.find?_cons,List.find?_cons,h x (Lm' ..),Ro l (fun y hy=>h y (List.mem_cons_of_mem _ hy))]
theorem head_any{b:LB}(hb:Ny b)(r:LB):(r++b).head?.any C8=r.head?.any C8:=by
 cases r with
 | cons d r=>rfl
 | nil =>
  rcases hb with rfl|⟨c,t,rfl,hc⟩
  ·rfl
  ·simp[Wl hc]
theorem tok_app(c:UInt8)(r b:LB)(hb:Ny b)(hq:c=34→(Hx r).isSome=true∨∀ x ∈ b,Fa x=true):tok (c::(r++b))=tok (c::r):=by
 have e1:Cy (c::(r++b))=Cy (c::r):=Uj hb (c::r);have e3:B3.find? (fun x=>x.isPrefixOf (c::(r++b)))=B3.find? (fun x=>x.isPrefixOf (c::r)):=Ro _ (fun x hx=>sign_ends hb hx (c::r));unfold tok;simp only[e1,Uj hb r,head_any hb r,e3];by_cases h34:c=34
 ·subst h34
  have hqq:Hx (r++b)=Hx r:=by
   unfold Hx at hq ⊢
   cases e:q2 false r with
   | some k=>exact q2_app b r false k e
   | none =>
    rcases hq rfl with h|h
    ·rw[e] at h;cases h
    ·exact q2_none b h r false e
  rw[hqq]
  cases e:Hx r with
  | none=>rfl
  | some k =>
   have hk:=q2_le r false k e
   have et:(34::(r++b)).take (1+k)=(34::r).take (1+k):=by
    rw[← Lp',List.take_append_of_le_length sO]
   simp only[et]
 ·simp only[if_neg h34]
def Iw(k:Int)(t:LB)(n:Int):LB:=if k=3 then 35::t else if k=4 then Lib.itoa n else if k=5 then Dr t else t
theorem Na(l:LB):l.take (Cy l).length=Cy l:=(List.prefix_iff_eq_take.1 (List.takeWhile_prefix Dh)).symm
theorem M8(l:LB):Cy (Cy l)=Cy l:=by
 unfold Cy
 induction l with
 | nil=>rfl
 | cons c l ih =>
  by_cases h:Dh c=true
  ·rw[List.takeWhile_cons_of_pos h,List.takeWhile_cons_of_pos h,ih]
  ·rw[List.takeWhile_cons_of_neg h];rfl
theorem Iq{c:UInt8}(r:LB)(h:Dh c=true):Cy (c::r)=c::Cy r:=List.takeWhile_cons_of_pos h
theorem Rh{c:UInt8}(h:Ef c=true):Dh c=true:=by unfold Dh;rw[h];rfl
theorem Nx{c:UInt8}(h:C8 c=true):Dh c=true:=by unfold Dh;rw[h];simp
theorem Wn{c:UInt8}(h:De c=true):Dh c=true:=by unfold Dh;rw[h];simp
theorem Yt{l:LB}{k:Int}{t:LB}{n:Int}{m:Nat}(h:tok l = .ok (k,t,n,m)):1≤k∧k≤7:=by
 unfold tok at h;split at h
 ·cases h
 ·split at h
  ·simp only[Except.ok.injEq,Prod.mk.injEq] at h;obtain⟨rfl,_⟩:=h;split <;> omega
  ·split at h
   ·exact qq182
   ·split at h
    ·exact qq182
    ·split at h
     ·split at h
      ·exact qq182
      ·cases h
     ·split at h
      ·split at h
       ·cases h
       ·split at h
        ·cases h
        ·exact qq182
      ·split at h
       ·cases h
       ·exact qq182
theorem Yw{l:LB}{k:Int}{t:LB}{n:Int}{m:Nat}(h:tok l = .ok (k,t,n,m)):l.take m=Iw k t n∧tok (l.take m)= .ok (k,t,n,m):=by
 have h0:=h;unfold tok at h;split at h
 ·cases h
 ·rename_i c r
  split at h
  ·rename_i h1
   simp only[Except.ok.injEq,Prod.mk.injEq] at h;obtain⟨rfl,rfl,rfl,rfl⟩:=h;rw[Na];refine⟨?_,?_⟩
   ·unfold Iw;split <;> rfl
   ·have e:Cy (c::r)=c::Cy r:=Iq r (Rh h1);rw[e,tok,if_pos h1,← e,M8]
  ·rename_i h1
   split at h
   ·rename_i h2
    simp only[Except.ok.injEq,Prod.mk.injEq] at h;obtain⟨rfl,rfl,rfl,rfl⟩:=h;rw[Na];refine⟨rfl,?_⟩;have e:Cy (c::r)=c::Cy r:=Iq r (Nx h2);rw[e,tok,if_neg h1,if_pos h2,← e,M8]
   ·rename_i h2
    split at h
    ·rename_i h3
     simp only[Except.ok.injEq,Prod.mk.injEq] at h;obtain⟨rfl,rfl,rfl,rfl⟩:=h
     have e:(c::r).take (1+(Cy r).length)=35::Cy r:=by
      rw[Nat.add_comm,List.take_succ_cons,Na,h3.1]
     rw[e];refine⟨rfl,?_⟩
     have hh:(Cy r).head?.any C8=true:=by
      cases r with
      | nil=>exact absurd h3.2 sM
      | cons d r=>rw[Iq r (Nx (by simpa using h3.2))];simpa using h3.2
     rw[tok,if_neg dC,if_neg dC,if_pos ⟨rfl,hh⟩,M8]
    ·rename_i h3
     split at h
     ·rename_i h4
      split at h
      ·rename_i h5
       simp only[Except.ok.injEq,Prod.mk.injEq] at h;obtain⟨rfl,rfl,rfl,rfl⟩:=h;rw[Na];refine⟨(itoa_read h5).symm,?_⟩;have e:Cy (c::r)=c::Cy r:=Iq r (Wn h4);have n3:c≠35:=by intro hh;subst hh;exact absurd h4 dC
       rw[e,tok,if_neg h1,if_neg h2,if_neg (fun x=>n3 x.1),if_pos h4,← e,M8,if_pos h5]
      ·cases h
     ·rename_i h4
      split at h
      ·rename_i h5
       split at h
       ·cases h
       ·rename_i j hq
        split at h
        ·cases h
        ·rename_i t' hu
         simp only[Except.ok.injEq,Prod.mk.injEq] at h;obtain⟨rfl,rfl,rfl,rfl⟩:=h;refine⟨(O7 hu).symm,?_⟩;subst h5;have e:(34::r).take (1+j)=34::r.take j:=by rw[Nat.add_comm,List.take_succ_cons]
         have hj:Hx (r.take j)=some j:=q2_take r false j hq;rw[e] at hu ⊢
         have et:(34::r.take j).take (1+j)=34::r.take j:=by
          rw[Nat.add_comm,List.take_succ_cons,List.take_take,Nat.min_self]
         rw[tok,if_neg dC,if_neg dC,if_neg (fun x=>absurd x.1 dC),if_neg dC,if_pos rfl];simp only[hj,et,hu]
      ·rename_i h5
       split at h
       ·cases h
       ·rename_i x hx
        simp only[Except.ok.injEq,Prod.mk.injEq] at h;obtain⟨rfl,rfl,rfl,rfl⟩:=h;have hp:=List.isPrefixOf_iff_prefix.1 (List.find?_some (p:=fun x:LB=>x.isPrefixOf (c::r)) hx);have hm:=List.mem_of_find?_eq_some hx;have e:(c::r).take x.length=x:=(List.prefix_iff_eq_take.1 hp).symm;rw[e];refine⟨rfl,?_⟩
        obtain⟨d,y,rfl⟩:∃ d y,x=d::y:=by
         have:=(Hs x hm).1
         cases x with
         | nil=>simp at this
         | cons d y=>exact⟨d,y,rfl⟩
        have hd:d=c:=by
         obtain⟨z,hz⟩:=hp;simp at hz;exact hz.1
        subst hd;have all:∀ x ∈ B3,Ef (x.headD 0)=false∧C8 (x.headD 0)=false∧x.headD 0≠35∧De (x.headD 0)=false∧x.headD 0≠34∧B3.find? (fun z=>z.isPrefixOf x)=some x:=by decide +kernel
        have ha:=all _ hm;rw[List.headD_cons] at ha;obtain⟨a1,a2,a3,a4,a5,a6⟩:=ha;rw[tok,if_neg (by simp[a1]),if_neg (by simp[a2]),if_neg (fun x=>a3 x.1),if_neg (by simp[a4]),if_neg a5];simp only[a6]
theorem Yx{l:LB}{k:Int}{t:LB}{n:Int}{m:Nat}(h:tok l = .ok (k,t,n,m)):l.take m=Iw k t n:=(Yw h).1
theorem Yu{l:LB}{k:Int}{t:LB}{n:Int}{m:Nat}(h:tok l = .ok (k,t,n,m)):(Iw k t n).length=m:=by
 rw[← Yx h,List.length_take];have:=Kp h;omega
theorem tok_again{l:LB}{k:Int}{t:LB}{n:Int}{m:Nat}(h:tok l = .ok (k,t,n,m))(b:LB)(hb:Ny b):tok (l.take m++b)= .ok (k,t,n,m):=by
 have h2:=(Yw h).2
 cases e:l.take m with
 | nil=>rw[e,tok] at h2;cases h2
 | cons c r =>
  rw[e] at h2
  rw[Lp',tok_app c r b hb (fun h34=>by
   left
   subst h34
   rw[tok,if_neg dC,if_neg dC,if_neg (fun x=>absurd x.1 dC),if_neg dC,if_pos rfl] at h2
   cases eq:Hx r with
   | none=>rw[eq] at h2;cases h2
   | some k=>rfl),h2]
theorem Ol(f a:Nat):Gq f a [] = .ok [⟨0,a,[],0⟩]:=by cases f <;> rfl
theorem J5(f a:Nat){c:UInt8}(r:LB)(h:Fa c=true):Gq (f+1) a (c::r)=Gq f (a+1) r:=by
 rw[Gq,if_pos (Fv h)]
theorem Mg(f a:Nat){c:UInt8}(r:LB)(h:Fa c=false):Gq (f+1) a (c::r)=match tok (c::r)with
  | .error e => .error (e,a)
  | .ok (k,t,n,m)=>match Gq f (a+m) ((c::r).drop m)with
   | .error e => .error e
   | .ok l => .ok (⟨k,a,t,n⟩::l):=by
 rw[Gq,if_neg (fun hc=>by rw[Bool.eq_false_iff] at h;exact h (by simpa [Fa] using hc))]
 all_goals
  cases tok (c::r)with
  | error e=>rfl
  | ok x=>rfl
theorem Mf{P:Nat→List UInt8→List Tok→Prop}(h0:∀ a,P a [] [⟨0,a,[],0⟩])
  (h1:∀ a c r ts,Fa c=true→P (a+1) r ts→P a (c::r) ts)
  (h2:∀ a c r k t n m ts,Fa c=false→tok (c::r)= .ok (k,t,n,m)→P (a+m) ((c::r).drop m) ts→P a (c::r) (⟨k,a,t,n⟩::ts)):
  ∀ (f a:Nat) (l:LB) (ts:List Tok),Gq f a l = .ok ts→P a l ts
 | f,a,[],ts,h=>by rw[Ol] at h;cases h;exact h0 a
 | 0,a,c::r,ts,h=>by cases h
 | f+1,a,c::r,ts,h=>by
  cases hb:Fa c with
  | true=>rw[J5 f a r hb] at h;exact h1 a c r ts hb (Mf h0 h1 h2 f (a+1) r ts h)
  | false =>
   rw[Mg f a r hb] at h
   cases ht:tok (c::r)with
   | error e=>rw[ht] at h;cases h
   | ok x =>
    obtain⟨k,t,n,m⟩:=x;rw[ht] at h;simp only at h
    cases hl:Gq f (a+m) ((c::r).drop m)with
    | error e=>rw[hl] at h;cases h
    | ok l'=>rw[hl] at h;cases h;exact h2 a c r k t n m l' hb ht (Mf h0 h1 h2 f (a+m) _ l' hl)
def Mq(t:Tok):Int×List UInt8×Int:=(t.k,t.text,t.n)
def GoodT(y:Tok):Prop:=1≤y.k∧y.k≤7∧1≤(Iw y.k y.text y.n).length∧∀ b,Ny b→tok (Iw y.k y.text y.n++b)= .ok (y.k,y.text,y.n,(Iw y.k y.text y.n).length)
theorem lexL_last{f a:Nat}{l:LB}{ts:List Tok}(h:Gq f a l = .ok ts):∃ ys,ts=ys++[⟨0,a+l.length,[],0⟩]∧∀ y ∈ ys,GoodT y:=by
 refine Mf (P:=fun a l ts=>∃ ys,ts=ys++[⟨0,a+l.length,[],0⟩]∧∀ y ∈ ys,GoodT y) ?_ ?_ ?_ f a l ts h
 ·intro a;exact⟨[],rfl,fun _ h=>by cases h⟩
 ·rintro a c r ts _ ⟨ys,rfl,hy⟩;exact⟨ys,by rw[Lc'];simp only[List.append_cancel_left_eq,List.cons.injEq,Tok.mk.injEq,true_and,and_true];omega,hy⟩
 ·rintro a c r k t n m ts _ ht ⟨ys,rfl,hy⟩;have hm:=Kp ht;have hk:=Yt ht;have hl:=Yu ht;refine⟨⟨k,a,t,n⟩::ys,?_,?_⟩
  ·rw[List.length_drop,Lp'];simp only[List.append_cancel_left_eq,List.cons.injEq,Tok.mk.injEq,true_and,and_true];omega
  ·intro y hy';rcases List.mem_cons.1 hy' with rfl|hy'
   ·refine⟨hk.1,hk.2,by rw[hl];exact hm.1,fun b hb=>?_⟩;show tok (Iw k t n++b)=_;rw[← Yx ht,tok_again ht b hb];simp only[List.length_take];rw[Nat.min_eq_left hm.2]
   ·exact hy y hy'
theorem Ys{l:LB}{e:Int}(h:tok l = .error e):e=20∨e=2:=by
 unfold tok at h;split at h
 ·cases h;exact .inl rfl
 ·split at h
  ·cases h
  ·split at h
   ·cases h
   ·split at h
    ·cases h
    ·split at h
     ·split at h
      ·cases h
      ·rename_i c r _ _ _ _ hr
       cases h;unfold Ft at hr ⊢;split at hr
       ·split at hr
        ·exact absurd rfl hr
        ·rename_i h1 h2;rw[if_pos h1,if_neg h2];simp
       ·rename_i h1;rw[if_neg h1];simp
     ·split at h
      ·split at h
       ·cases h;exact .inl rfl
       ·split at h
        ·cases h;exact .inl rfl
        ·cases h
      ·split at h
       ·cases h;exact .inl rfl
       ·cases h
theorem Ru:∀ (f a:Nat)(l:LB)(e:Int)(p:Nat),l.length≤f→Gq f a l = .error (e,p)→a≤p∧p<a+l.length∧(e=20∨e=2)
 | f,a,[],e,p,_,h=>by rw[Ol] at h;cases h
 | 0,a,c::r,e,p,hf,_=>by simp at hf
 | f+1,a,c::r,e,p,hf,h=>by
  simp only[Lc'] at hf ⊢
  cases hb:Fa c with
  | true =>
   rw[J5 f a r hb] at h;have:=Ru f (a+1) r e p oM h
   exact⟨oM,oM,this.2.2⟩
  | false =>
   rw[Mg f a r hb] at h
   cases ht:tok (c::r)with
   | error x=>rw[ht] at h;cases h;exact⟨oM,oM,Ys ht⟩
   | ok x =>
    obtain⟨k,t,n,m⟩:=x;have hm:=Kp ht;rw[Lc'] at hm;rw[ht] at h;simp only at h
    cases hl:Gq f (a+m) ((c::r).drop m)with
    | error x =>
     rw[hl] at h;cases h;have:=Ru f (a+m) _ e p (by rw[List.length_drop,Lc'];omega) hl;rw[List.length_drop,Lc'] at this
     exact⟨oM,oM,this.2.2⟩
    | ok l'=>rw[hl] at h;cases h
def shiftT(d:Nat)(t:Tok):Tok:=⟨t.k,t.at'+d,t.text,t.n⟩
def shiftR(d:Nat):Except (Int×Nat) (List Tok)→Except (Int×Nat) (List Tok)
 | .error (e,p)=> .error (e,p+d)
 | .ok ts => .ok (ts.map (shiftT d))
theorem N1(d:Nat):∀ (f a:Nat)(l:LB),Gq f (a+d) l=shiftR d (Gq f a l)
 | f,a,[]=>by rw[Ol,Ol];rfl
 | 0,a,c::r=>rfl
 | f+1,a,c::r=>by
  cases hb:Fa c with
  | true=>rw[J5 f _ r hb,J5 f _ r hb,← N1 d f (a+1) r];congr 1;omega
  | false =>
   rw[Mg f _ r hb,Mg f _ r hb]
   cases tok (c::r)with
   | error x=>rfl
   | ok x =>
    obtain⟨k,t,n,m⟩:=x;simp only;have e:a+d+m=a+m+d:=by omega
    rw[e,N1 d f (a+m) _]
    cases Gq f (a+m) ((c::r).drop m)with
    | error x=>rfl
    | ok l'=>rfl
inductive Al where
 | mk (k a:Int) (nm:LB) (n:Int) (s:LB) (ls:List LB) (args:List Al)
inductive Ad where
 | mk (k a:Int) (nm:LB) (n:Int) (s:LB) (ls:List LB) (args:List Ad) (arms:List (Al×Ad))
def Al.zero:Al:=.mk 0 0 [] 0 [] [] []
def Ad.zero:Ad:=.mk 0 0 [] 0 [] [] [] []
def Ad.at_:Ad→Int
 | .mk _ a _ _ _ _ _ _=>a
inductive PNT where
 | pat|patom
 | marked (x:Al)
 | recL (a:Int) (ls:List LB) (args:List Al)
inductive NT where
 | seq|item|fn
 | arms (k a:Int)
 | armsL (k a:Int) (x:Ad) (acc:List (Al×Ad))
 | or|and|cmp|sum
 | sumL (a:Ad)
 | prod
 | prodL (a:Ad)
 | unary|app
 | opL (n a:Int) (m:Nat) (acc:List Ad)
 | appL (a:Ad)
 | post
 | postL (a:Ad)
 | atom
 | braces (a:Int)
 | recL (a:Int) (ls:List LB) (args:List Ad)
inductive Cmd where
 | retE (x:Ad)
 | retP (x:Al)
 | look (k:Tok→Bool→Cmd)
 | ahead (k:Tok→Cmd)
 | adv (k:Cmd)
 | fail (k:Cmd)
 | callE (nt:NT) (k:Ad→Cmd)
 | callP (nt:PNT) (k:Al→Cmd)
def O8(t:Tok):Bool:=t.k==6||t.k==7
def isB(t:Tok)(ok:Bool)(l:List LB):Bool:=ok&&O8 t&&l.contains t.text
def isC(l:List LB)(k:Bool→Cmd):Cmd:=.look fun t ok=>k (isB t ok l)
def Ed(s:LB)(k:Bool→Cmd):Cmd:=.look fun t ok=>if isB t ok [s]=true then .adv (k true)else k false
def Ch(s:LB)(k:Cmd):Cmd:=.look fun t ok=>if isB t ok [s]=true then .adv k else .fail k
def Nq(t:Tok)(ok:Bool):Bool:=ok&&t.k==1
def Hq(k:LB→Cmd):Cmd:=.look fun t ok=>if Nq t ok=true then .adv (k t.text)else .fail (k [])
def Di(t:Tok)(ok:Bool):Bool:=(ok&&(t.k==1||t.k==2||t.k==4||t.k==5))||isB t ok [[116,114,117,101],[102,97,108,115,101],[40],[123],[33]]
def Bm(s:LB):Int:=if s=[61] then 7 else if s=[60] then 8 else if s=[43] then 1 else if s=[45] then 2 else if s=[42] then 3 else if s=[47] then 4 else 5
def Bz(s:LB):Int×Nat :=
 if s=[114,101,102] then (10,1)else if s=[108,101,110] then (16,1)else if s=[115,105,122,101] then (17,1)
 else if s=[103,101,116,99] then (20,1)else if s=[112,117,116,99] then (21,1)else if s=[97,114,114,97,121] then (13,2)
 else if s=[103,101,116] then (14,2)else if s=[98,121,116,101] then (18,2)else if s=[99,97,116] then (19,2)
 else if s=[115,101,116] then (15,3)else (0,0)
def I7(k a:Int)(args:List Ad):Ad:=.mk k a [] 0 [] [] args []
def opE(n a:Int)(args:List Ad):Ad:=.mk 19 a [] n [] [] args []
def Dd:PNT→Cmd
 | .pat => .look fun t ok=>if (ok&&t.k==3)=true then .adv (.callP .patom fun x => .retP (.mk 8 t.at' t.text 0 [] [] [x]))else .callP .patom .retP
 | .patom => .look fun t ok =>
  if ok=false then .retP .zero
  else if t.k=1 then .adv (.retP (if t.text=[95] then .mk 1 t.at' [] 0 [] [] [] else .mk 2 t.at' t.text 0 [] [] []))
  else if t.k=2 then .adv (.retP (.mk 7 t.at' t.text 0 [] [] []))
  else if t.k=4 then .adv (.retP (.mk 3 t.at' [] t.n [] [] []))
  else if t.k=5 then .adv (.retP (.mk 4 t.at' [] 0 t.text [] []))
  else .callP (.marked (.mk 0 t.at' [] 0 [] [] [])) .retP
 | .marked (.mk k a nm n s ls args)=>
  Ed [45] fun b=>if b=true then (.look fun t ok=>if t.k=4 then (if ok=true then .adv (.retP (.mk 3 a nm (wrap64 (-t.n)) s ls args))else .retP (.mk 3 a nm (wrap64 (-t.n)) s ls args))else .fail (.retP (.mk 3 a nm n s ls args)))else
  Ed [116,114,117,101] fun b=>if b=true then .retP (.mk 5 a nm 1 s ls args)else
  Ed [102,97,108,115,101] fun b=>if b=true then .retP (.mk 5 a nm n s ls args)else
  Ed [40] fun b=>if b=true then (Ed [41] fun b=>if b=true then .retP (.mk 6 a nm n s ls args)else .callP .pat fun x=>Ch [41] (.retP x))else
  Ed [123] fun b=>if b=true then (Ed [125] fun b=>if b=true then .retP (.mk 9 a nm n s ls args)else .look fun _ ok=>if ok=true then .callP (.recL a ls args) .retP else Ch [125] (.retP (.mk 9 a nm n s ls args)))else
  .fail (.retP (.mk k a nm n s ls args))
 | .recL a ls args=>Hq fun x=>Ch [61] (.callP .pat fun p=>Ed [44] fun b=>if b=true then .callP (.recL a (ls++[x]) (args++[p])) .retP else Ch [125] (.retP (.mk 9 a [] 0 [] (ls++[x]) (args++[p]))))
def body:NT→Cmd
 | .seq => .callE .item fun a => .look fun t _=>Ed [59] fun b=>if b=true then .callE .seq fun c => .retE (I7 20 t.at' [a,c])else .retE a
 | .item => .look fun t _ =>
  Ed [108,101,116] fun b=>if b=true then
   (Ed [114,101,99] fun r=>Hq fun nm=>Ch [61] (.callE (if r=true then .fn else .seq) fun x=>Ch [105,110] (.callE .seq fun y => .retE (.mk (if r=true then 10 else 9) t.at' nm 0 [] [] [x,y] []))))else
  isC [[102,117,110]] fun b=>if b=true then .callE .fn .retE else
  Ed [109,97,116,99,104] fun b=>if b=true then .callE (.arms 16 t.at') .retE else
  Ed [116,114,121] fun b=>if b=true then .callE (.arms 17 t.at') .retE else
  Ed [105,102] fun b=>if b=true then (.callE .seq fun x=>Ch [116,104,101,110] (.callE .item fun y=>Ch [101,108,115,101] (.callE .item fun z => .retE (I7 11 t.at' [x,y,z]))))else
  Ed [114,97,105,115,101] fun b=>if b=true then (.callE .post fun x => .retE (I7 18 t.at' [x]))else
  .callE .or fun a => .look fun t _=>Ed [58,61] fun b=>if b=true then .callE .item fun c => .retE (opE 12 t.at' [a,c])else .retE a
 | .fn => .look fun t _=>Ch [102,117,110] (Hq fun nm=>Ch [45,62] (.callE .seq fun x => .retE (.mk 7 t.at' nm 0 [] [] [x] [])))
 | .arms k a => .callE .seq fun x=>Ch [119,105,116,104] (.look fun _ ok=>if ok=true then .callE (.armsL k a x []) .retE else Ch [101,110,100] (.retE (.mk k a [] 0 [] [] [x] [])))
 | .armsL k a x acc => .callP .pat fun p=>Ch [45,62] (.callE .seq fun y=>Ed [124] fun b=>if b=true then .callE (.armsL k a x (acc++[(p,y)])) .retE else Ch [101,110,100] (.retE (.mk k a [] 0 [] [] [x] (acc++[(p,y)]))))
 | .or => .callE .and fun a => .look fun t _=>Ed [124,124] fun b=>if b=true then .callE .or fun c => .retE (I7 22 t.at' [a,c])else .retE a
 | .and => .callE .cmp fun a => .look fun t _=>Ed [38,38] fun b=>if b=true then .callE .and fun c => .retE (I7 21 t.at' [a,c])else .retE a
 | .cmp => .callE .sum fun a => .look fun t ok=>if isB t ok [[61],[60]]=true then .adv (.callE .sum fun c => .retE (opE (Bm t.text) t.at' [a,c]))else .retE a
 | .sum => .callE .prod fun a => .callE (.sumL a) .retE
 | .sumL a => .look fun t ok=>if isB t ok [[43],[45]]=true then .adv (.callE .prod fun c => .callE (.sumL (opE (Bm t.text) t.at' [a,c])) .retE)else .retE a
 | .prod => .callE .unary fun a => .callE (.prodL a) .retE
 | .prodL a => .look fun t ok=>if isB t ok [[42],[47],[37]]=true then .adv (.callE .unary fun c => .callE (.prodL (opE (Bm t.text) t.at' [a,c])) .retE)else .retE a
 | .unary => .look fun t _=>Ed [45] fun b=>if b=true then (.callE .unary fun x => .retE (opE 6 t.at' [x]))else
  Ed [110,111,116] fun b=>if b=true then (.callE .unary fun x => .retE (opE 9 t.at' [x]))else .callE .app .retE
 | .app => .look fun t ok =>
  if (ok&&t.k==3)=true then .adv (.callE .post fun x => .retE (.mk 15 t.at' t.text 0 [] [] [x] []))
  else if (ok&&t.k==6&&decide (0<(Bz t.text).1))=true then .adv (.callE (.opL (Bz t.text).1 t.at' (Bz t.text).2 []) .retE)
  else .callE .post fun a => .callE (.appL a) .retE
 | .opL n a m acc=>match m with
  | 0 => .retE (opE n a acc)
  | m+1 => .callE .post fun x => .callE (.opL n a m (acc++[x])) .retE
 | .appL a => .look fun t ok=>if Di t ok=true then (.callE .post fun x => .callE (.appL (I7 8 a.at_ [a,x])) .retE)else .retE a
 | .post => .look fun t _=>Ed [33] fun b=>if b=true then (.callE .post fun x => .retE (opE 11 t.at' [x]))else .callE .atom fun a => .callE (.postL a) .retE
 | .postL a => .look fun t ok=>if isB t ok [[46]]=true then .adv (Hq fun nm => .callE (.postL (.mk 14 t.at' nm 0 [] [] [a] [])) .retE)else .retE a
 | .atom => .look fun t ok =>
  if (Di t ok && !isB t ok [[33]])=true then .adv (
   if t.k=1 then .retE (.mk 1 t.at' t.text 0 [] [] [] [])
   else if t.k=2 then .retE (.mk 6 t.at' t.text 0 [] [] [] [])
   else if t.k=4 then .retE (.mk 2 t.at' [] t.n [] [] [] [])
   else if t.k=5 then .retE (.mk 3 t.at' [] 0 t.text [] [] [])
   else if t.text=[116,114,117,101] then .retE (.mk 4 t.at' [] 1 [] [] [] [])
   else if t.text=[102,97,108,115,101] then .retE (.mk 4 t.at' [] 0 [] [] [] [])
   else if t.text=[123] then .callE (.braces t.at') .retE
   else Ed [41] fun b=>if b=true then .retE (.mk 5 t.at' [] 0 [] [] [] [])else .callE .seq fun x=>Ch [41] (.retE x))
  else .fail (.retE .zero)
 | .braces a=>Ed [125] fun b=>if b=true then .retE (.mk 12 a [] 0 [] [] [] [])else
  .ahead fun n => .look fun t ok=>if (t.k==1&&(n.k==7&&n.text==[61]))=true then (if ok=true then .callE (.recL a [] []) .retE else Ch [125] (.retE (.mk 12 a [] 0 [] [] [] [])))else
   .callE .seq fun x=>Ch [119,105,116,104] (Hq fun nm=>Ch [61] (.callE .seq fun y=>Ch [125] (.retE (.mk 13 a nm 0 [] [] [x,y] []))))
 | .recL a ls args=>Hq fun nm=>Ch [61] (.callE .seq fun x=>Ed [44] fun b=>if b=true then .callE (.recL a (ls++[nm]) (args++[x])) .retE else Ch [125] (.retE (.mk 12 a [] 0 [] (ls++[nm]) (args++[x]) [])))
structure St where
 i:Nat
 ok:Bool
inductive Rs where
 | e (x:Ad)
 | p (x:Al)
def Lo(ts:List Tok)(i:Nat):Option Tok:=ts[min (i+1) (ts.length-1)]?
inductive Run (ts:List Tok):Cmd→St→Rs→St→Prop
 | retE {x st}:Run ts (.retE x) st (.e x) st
 | retP {x st}:Run ts (.retP x) st (.p x) st
 | look {k t st r st'} (h:ts[st.i]?=some t) (hk:Run ts (k t st.ok) st r st'):Run ts (.look k) st r st'
 | ahead {k t st r st'} (h:Lo ts st.i=some t) (hk:Run ts (k t) st r st'):Run ts (.ahead k) st r st'
 | adv {k st r st'} (hk:Run ts k ⟨st.i+1,st.ok⟩ r st'):Run ts (.adv k) st r st'
 | fail {k st r st'} (hk:Run ts k ⟨st.i,false⟩ r st'):Run ts (.fail k) st r st'
 | callE {nt k st x st1 r st'} (h:Run ts (body nt) st (.e x) st1) (hk:Run ts (k x) st1 r st'):Run ts (.callE nt k) st r st'
 | callP {nt k st x st1 r st'} (h:Run ts (Dd nt) st (.p x) st1) (hk:Run ts (k x) st1 r st'):Run ts (.callP nt k) st r st'
theorem Run.det{ts:List Tok}{c:Cmd}{st:St}{r:Rs}{st':St}(h:Run ts c st r st'):∀ {r2:Rs}{st2:St},Run ts c st r2 st2→r2=r∧st2=st':=by
 induction h with
 | retE=>intro r2 st2 h2;cases h2;exact⟨rfl,rfl⟩
 | retP=>intro r2 st2 h2;cases h2;exact⟨rfl,rfl⟩
 | look h hk ih =>
  intro r2 st2 h2
  cases h2 with
  | look h' hk'=>rw[h] at h';cases h';exact ih hk'
 | ahead h hk ih =>
  intro r2 st2 h2
  cases h2 with
  | ahead h' hk'=>rw[h] at h';cases h';exact ih hk'
 | adv hk ih=>intro r2 st2 h2;cases h2 with|adv hk'=>exact ih hk'
 | fail hk ih=>intro r2 st2 h2;cases h2 with|fail hk'=>exact ih hk'
 | callE h hk ih1 ih2 =>
  intro r2 st2 h2
  cases h2 with
  | callE h' hk' =>
   obtain⟨e1,e2⟩:=ih1 h';cases e1;cases e2
   exact ih2 hk'
 | callP h hk ih1 ih2 =>
  intro r2 st2 h2
  cases h2 with
  | callP h' hk' =>
   obtain⟨e1,e2⟩:=ih1 h';cases e1;cases e2;exact ih2 hk'
theorem Run.grows{ts:List Tok}{c:Cmd}{st:St}{r:Rs}{st':St}(h:Run ts c st r st'):st.i≤st'.i∧(st'.ok=true→st.ok=true):=by
 induction h with
 | retE=>exact⟨Nr' _,id⟩
 | retP=>exact⟨Nr' _,id⟩
 | look h hk ih=>exact ih
 | ahead h hk ih=>exact ih
 | adv hk ih=>exact⟨Nat.le_trans (Nat.le_succ _) ih.1,ih.2⟩
 | fail hk ih=>exact⟨ih.1,fun h=>by have:=ih.2 h;cases this⟩
 | callE h hk ih1 ih2=>exact⟨Nat.le_trans ih1.1 ih2.1,fun h=>ih1.2 (ih2.2 h)⟩
 | callP h hk ih1 ih2=>exact⟨Nat.le_trans ih1.1 ih2.1,fun h=>ih1.2 (ih2.2 h)⟩
def Qb(v v':Value)(B:Nat):Prop:=∀ g,v'.ownBlock=some g→v.ownBlock=some g∨B≤g
section
variable {P:Program} (w:World)
theorem Ns(t ty e:TypeId)(i:TypeInfo)(z:Value)(size bytes:Nat)(ht:P.underlying t=some (.slice e))(hi:P.info? e=some i)(hz:i.zero=some z)
  (hsize:i.size=size) (hby:i.bytes=bytes) (hzs:z.cells.size=size) (hsz:0<size)
  (v:Value) (n:Nat) (xs:List Value) (hown:w.ownsRow 0 e size v n xs)
  (a:Addr) (m c:Nat) (news:List Value) (hl:news.length=m * size) (hnews:∀ j u,news[j]?=some u→w.cell? (a.add j)=some u) (h1:∀ u ∈ news,u.oneCell'=true)
  (h63:n+m≤maxLen) (hbytes:(n+m)* bytes≤140737488355328):
  ∃ v' w',(Builtin.append_ #[t,t] ty #[v,.slice (some a) m c]).run P w = .ok v' w'∧w'.ownsRow 0 e size v' (n+m) (xs++news)∧w.grownBy w' v.ownBlock∧Qb v v' w.heap.size:=by
 obtain⟨v',w',hr,h2,h3,_⟩:=run_append_own (P:=P) w 0 t ty e i z size bytes ht hi hz hsize hby hzs hsz v n xs hown a m c news hl hnews h1 h63 hbytes (Nat.zero_le _);refine⟨v',w',hr,h2,h3,?_⟩;intro g' hg'
 rcases hown.2 with⟨hv,hn⟩| ⟨g,cap,cur,hv,_,hg,hnc,hcm,hcs,htake⟩
 ·have hown2:w.ownsRow w.heap.size e size v n xs:=⟨hown.1,.inl ⟨hv,hn⟩⟩
  obtain⟨v'',w'',hr',h2',_,_⟩:=run_append_own (P:=P) w w.heap.size t ty e i z size bytes ht hi hz hsize hby hzs hsz v n xs hown2 a m c news hl hnews h1 h63 hbytes (Nr' _);rw[hr] at hr';cases hr';exact .inr (h2'.lt g' hg').1
 ·subst hv;subst hsize;subst hby;have hsmall:n+m≤9223372036854775807:=by simp only[maxLen] at h63;omega
  by_cases hroom:n+m≤cap
  ·have hfit:n * i.size+news.length≤cur.size:=by rw[hl,hcs,← Nat.add_mul];exact Nat.mul_le_mul_right _ hroom
   have hr':=run_append_room (P:=P) w t ty e i ht hi g n cap cur hg a m c news hl hnews h1 hroom hfit;rw[hr] at hr';cases hr';exact .inl hg'
  ·have holds:∀ j u,xs[j]?=some u→w.cell? ((⟨g,0,none⟩:Addr).add j)=some u:=hown.cells (g:=g) rfl
   have hr':=run_append_grow (P:=P) w t ty e i z ht hi hz ⟨g,0,none⟩ n cap xs hown.1 holds a m c news hl hnews oM oM (growslice_fits oM hbytes);exact qq307
theorem D2{ops:Array Oper}{Gz:List Oper}{o:Oper}{a:Act}{Q:Exit→Act→World→Prop}(hgd:o.guard=none)(s x:Operand)(t:TypeId)
  (ho:o.op = .call { callee:=.builtin .append,args:=#[s,x],argTypes:=#[t,t] })
  (e:TypeId) (i:TypeInfo) (z:Value) (size bytes:Nat) (ht:P.underlying t=some (.slice e)) (hi:P.info? e=some i) (hz:i.zero=some z)
  (hsize:i.size=size) (hby:i.bytes=bytes) (hzs:z.cells.size=size) (hsz:0<size)
  (v:Value) (n:Nat) (xs:List Value) (hs:a.eval s=v) (hown:w.ownsRow 0 e size v n xs)
  (ad:Addr) (m c:Nat) (news:List Value) (hx:a.eval x = .slice (some ad) m c) (hl:news.length=m * size) (hnews:∀ j u,news[j]?=some u→w.cell? (ad.add j)=some u) (h1:∀ u ∈ news,u.oneCell'=true)
  (h63:n+m≤maxLen) (hbytes:(n+m)* bytes≤140737488355328)
  (h:∀ v' w',w'.ownsRow 0 e size v' (n+m) (xs++news)→w.grownBy w' v.ownBlock→Qb v v' w.heap.size→wpList P ops Q Gz (a.put o.dst v') w'):wpList P ops Q (o::Gz) a w:=by
 refine wpList_plain hgd fun K hK=>?_
 obtain⟨v',w',hr,h2,h3,h4⟩:=Ns (P:=P) w t o.type e i z size bytes ht hi hz hsize hby hzs hsz v n xs hown ad m c news hl hnews h1 h63 hbytes;exact qq176
theorem Ml(t u ty e:TypeId)(i:TypeInfo)(ht:P.underlying t=some (.slice e))(hu:P.underlying u=some .string)(hi:P.info? e=some i)(hz:i.zero=some (.int .u8 0))
  (hsize:i.size=1) (hby:i.bytes=1)
  (v:Value) (n:Nat) (xs:List Value) (hown:w.ownsRow 0 e 1 v n xs) (s:ByteArray) (h63:n+s.size≤maxLen) (hbytes:n+s.size≤140737488355328):
  ∃ v' w',(Builtin.append_ #[t,u] ty #[v,.string s]).run P w = .ok v' w'∧w'.ownsRow 0 e 1 v' (n+s.size) (xs++Lib.strCells s)∧w.grownBy w' v.ownBlock∧Qb v v' w.heap.size:=by
 obtain⟨v',w',hr,h2,h3,_⟩:=Lib.run_append_own_string (P:=P) w 0 t u ty e i ht hu hi hz hsize hby v n xs hown s h63 hbytes (Nat.zero_le _);refine⟨v',w',hr,h2,h3,?_⟩;intro g' hg'
 rcases hown.2 with⟨hv,hn⟩| ⟨g,cap,cur,hv,_,hg,hnc,hcm,hcs,htake⟩
 ·have hown2:w.ownsRow w.heap.size e 1 v n xs:=⟨hown.1,.inl ⟨hv,hn⟩⟩
  obtain⟨v'',w'',hr',h2',_,_⟩:=Lib.run_append_own_string (P:=P) w w.heap.size t u ty e i ht hu hi hz hsize hby v n xs hown2 s h63 hbytes (Nr' _);rw[hr] at hr';cases hr';exact .inr (h2'.lt g' hg').1
 ·subst hv;have hsmall:n+s.size≤9223372036854775807:=by simp only[maxLen] at h63;omega
  by_cases hroom:n+s.size≤cap
  ·have hr':=Lib.run_append_room_string (P:=P) w t u ty e i ht hu hi hsize g n cap cur hg s hroom oM;rw[hr] at hr';cases hr';exact .inl hg'
  ·have holds:∀ j u,xs[j]?=some u→w.cell? ((⟨g,0,none⟩:Addr).add j)=some u:=hown.cells (g:=g) rfl
   have hr':=Lib.run_append_grow_string (P:=P) w t u ty e i (.int .u8 0) ht hu hi hz ⟨g,0,none⟩ n cap xs (by rw[hsize];exact hown.1) holds s oM oM (by rw[hby];exact growslice_fits oM oM);exact qq307
theorem Lj{ops:Array Oper}{Gz:List Oper}{o:Oper}{a:Act}{Q:Exit→Act→World→Prop}(hgd:o.guard=none)(sl x:Operand)(t u:TypeId)
  (ho:o.op = .call { callee:=.builtin .append,args:=#[sl,x],argTypes:=#[t,u] })
  (e:TypeId) (i:TypeInfo) (ht:P.underlying t=some (.slice e)) (hu:P.underlying u=some .string) (hi:P.info? e=some i) (hz:i.zero=some (.int .u8 0))
  (hsize:i.size=1) (hby:i.bytes=1)
  (v:Value) (n:Nat) (xs:List Value) (hs:a.eval sl=v) (hown:w.ownsRow 0 e 1 v n xs) (s:ByteArray) (hx:a.eval x = .string s)
  (h63:n+s.size≤maxLen) (hbytes:n+s.size≤140737488355328)
  (h:∀ v' w',w'.ownsRow 0 e 1 v' (n+s.size) (xs++Lib.strCells s)→w.grownBy w' v.ownBlock→Qb v v' w.heap.size→wpList P ops Q Gz (a.put o.dst v') w'):wpList P ops Q (o::Gz) a w:=by
 refine wpList_plain hgd fun K hK=>?_
 obtain⟨v',w',hr,h2,h3,h4⟩:=Ml (P:=P) w t u o.type e i ht hu hi hz hsize hby v n xs hown s h63 hbytes;exact qq176
end
theorem Dv{e:TypeId}{size n:Nat}{v:Value}{xs:List Value}{w w':World}{L:List Nat}(h:w.ownsRow 0 e size v n xs)(hf:Fr L w w')(hL:∀ g,v.ownBlock=some g→g ∉ L):w'.ownsRow 0 e size v n xs:=by
 refine⟨h.1,?_⟩
 rcases h.2 with hn|⟨g,cap,cur,hv,hb,hg,Gz⟩
 ·exact .inl hn
 ·exact .inr ⟨g,cap,cur,hv,hb,hf.keep hg (hL g (by rw[hv];rfl)),Gz⟩
theorem Fr.append{L:List Nat}{a w w':World}{v:Value}(h:Fr L a w)(hg:w.grownBy w' v.ownBlock)(hv:∀ g,v.ownBlock=some g→g ∈ L∨a.heap.size≤g):Fr L a w':=h.grown hg hv
theorem Th(s:ByteArray):Lib.strCells s=Lib.byteCells s.data.toList:=by simp[Lib.strCells,Lib.byteCells]
theorem ofNat_toNat(c:Int)(h0:0≤c)(h1:c≤255):((UInt8.ofNat c.toNat).toNat:Int)=c:=by rw[UInt8.toNat_ofNat'];omega
structure Env (w:World):Prop where
 size:prog.globals.size≤w.heap.size
 tab : Lib.TabIs prog w "internal/strconv.uint64pow10" .u64 Lib.pow10Tab
 rng : ∃ tp p, w.var? prog "strconv.ErrRange" = some #[.iface tp p]
theorem gTab : prog.globalNamed "internal/strconv.uint64pow10" = some 3 := by kernel_rfl
theorem gRng : prog.globalNamed "strconv.ErrRange" = some 2 := by kernel_rfl
theorem nGlob:3<prog.globals.size∧2<prog.globals.size:=by constructor <;> exact of_decide_eq_true kR
theorem Env.below{w w':World}(h:Env w)(hb:Below w.heap.size w w'):Env w':=by
 obtain⟨hs,ht,tp,p,hr⟩:=h;exact⟨Nat.le_trans hs hb.size,var?_below hb gTab (Nl' nGlob.1 hs) ht,tp,p,var?_below hb gRng (Nl' nGlob.2 hs) hr⟩
theorem Env.fr{w w':World}(h:Env w)(hb:Fr [] w w'):Env w':=h.below hb.below0
section
open Go.RowKit Go.Shelf
def AbC{β:Type}(Bs B:Nat)(J:β→World→Prop):Prop:=AbidesFrom B J∧∀ s W v,J s W→J s (W.setCell ⟨Bs,0,none⟩ v)
def Qn{α:Type}(F:Fence)(n:Nat)(P:Program)(gf:Nat)(lb:Array Value)(encs:α→Array Value)(Bs B:Nat)(S Sp:List α→Prop)(N:Nat)(w:World):Prop :=
 ∀ (l:Nat) (J Jx:List α→World→Prop) (W:World),Below B w W→AbC Bs W.heap.size J→AbC Bs W.heap.size Jx →
  (∀ pre x W1,J pre W1→pre.length<N→YieldAt F (n-1) P l (encs x) W1 fun e W' =>
   (e = .returned (.bool true)∧J (pre++[x]) W'∧Below B W1 W')∨(e = .returned (.bool false)∧Jx (pre++[x]) W'))→
  J [] W →
  CallsIn F n P gf (#[.func (.yield l) #[] #[]]++lb) W fun e W'=>(∃ v,e = .returned v)∧((∃ xs,S xs∧J xs W')∨(∃ pre,Sp pre∧Jx pre W'))
theorem Bg{W:World}{b k:Nat}{v:Value}(h:k≠b):(W.setCell ⟨b,0,none⟩ v).heap[k]?=W.heap[k]?:=by
 simp[World.setCell,Array.getElem?_modify,Ne.symm h]
section
variable {F:Fence} {n:Nat} {P:Program}
theorem nn180(h:p:=by
 cases e with
 | normal =>
  obtain⟨hk3,hb3,hi3⟩:=hp;obtain⟨hr,hl3,hl4,hk4⟩:=ends none V hk3
  exact⟨_,_,hr,.inl ⟨rfl,⟨hI.putObj _ hi3 oM hl3 rfl,hl4,hk4⟩,((bel _ _ (Array.getElem?_eq_some_iff.1 hl).1).trans hb3).trans (bel _ _ (Array.getElem?_eq_some_iff.1 hl3).1)⟩⟩
 | ret =>
  exact qq205
 | exit id=>exact hp.elim
 | goto t=>exact hp.elim
 | panic ch=>exact hp.elim
 | outgrown=>exact hp.elim):p:=h
theorem nn201(h:p:=by
 refine⟨w.heap.size+1,[{ target:=.collected w.heap.size,args:=#[] }],W1,{ target:=.fn (.func gf) lb,args:=#[.func (.yield (w.heap.size+1)) #[] #[]] },W1,gf,
  #[.func (.yield (w.heap.size+1)) #[] #[]]++lb,W1,?_,?_,?_,?_,fun _=>h1,?_⟩
 ·rw[← hW1,hrec];exact run_enterLoop_outer _ _ _ _ _
 ·simp only[resolve,hg];simp[go_sem]
 ·intro f' hf';simp[Target.leads] at hf';subst hf';exact hFg
 ·simp[invoke,go_sem,eg]
 ·have kqq147:=@Hz _ @nn355;exact qq147):p:=h
theorem nn288(h:p:=by
 refine wpIn_mono (hbody _ pre x _ (hI.putObj _ hi oM hl rfl) hlen) ?_;have kqq67:=@Hz _ @nn180;exact qq67):p:=h
theorem nn355(h:p:=by
 refine(hseq (w.heap.size+1)
  (fun pre W=>I pre W∧W.heap[w.heap.size+1]?=some (.loop (rec .ready none))∧W.heap[w.heap.size]?=some (.deferred (some [])))
  (fun pre W=>Ix pre W∧W.heap[w.heap.size+1]?=some (.loop (rec .done (some .ret)))∧W.heap[w.heap.size]?=some (.deferred (some [])))
  W1 hb1
  ⟨fun s A B row hs hg' hr=>⟨hI s A B row hs.1 hg' (cellsOf (B:=B) hr),(grownBy_keeps hg' (fun r e=>(hr r e).2) hs.2.1 rfl).trans hs.2.1,(grownBy_keeps hg' (fun r e=>(hr r e).2) hs.2.2 rfl).trans hs.2.2⟩,
   fun s A v hs=>⟨hIc s A v hs.1,(Bg nl).trans hs.2.1,(Bg nd).trans hs.2.2⟩⟩
  ⟨fun s A B row hs hg' hr=>⟨hIx s A B row hs.1 hg' (cellsOf (B:=B) hr),(grownBy_keeps hg' (fun r e=>(hr r e).2) hs.2.1 rfl).trans hs.2.1,(grownBy_keeps hg' (fun r e=>(hr r e).2) hs.2.2 rfl).trans hs.2.2⟩,
   fun s A v hs=>⟨hIxc s A v hs.1,(Bg nl).trans hs.2.1,(Bg nd).trans hs.2.2⟩⟩
  ?_ ⟨hI1,hLoop,hDef⟩).mono ?_
 ·rintro pre x W ⟨hi,hl,hk⟩ hlen;have hy:=run_yield (P:=P) (args:=encs x) hl (by rw[hrec];exact hps x);rw[hrec] at hy;refine⟨fn,_,assign,body,hy,roundIn_of_wpIn hfn (hassign _ x W _ ⟨_,run_beginRound hl (by rw[hrec]),?_⟩)⟩;have kqq107:=@Hz _ @nn288;exact qq107
 ·exact qq109):p:=h
theorem range_cell{α:Type}{g:Operand}{ps:Array Tmp}{assign body:Code}{Q:Exit→Act→World→Prop}{a:Act}{w:World}
  (hro:F.round=none) (h1:1≤n) {gf:Nat} {lb:Array Value} (hg:a.eval g = .func (.func gf) #[] lb) (hFg:F.fn gf) (eg:∀ args w,(callFunc gf args).run P w = .ok (.enter gf args) w)
  {encs:α→Array Value} {S Sp:List α→Prop} {N Bs:Nat} (hBs:Bs<w.heap.size) (hseq:Qn F (n-1) P gf lb encs Bs w.heap.size S Sp N w) (hps:∀ x,(encs x).size=ps.size)
  (I Ix:List α→World→Prop) (hI:OwnFrom w.heap.size I) (hIc:∀ s W v,I s W→I s (W.setCell ⟨Bs,0,none⟩ v)) (hIx:OwnFrom w.heap.size Ix) (hIxc:∀ s W v,Ix s W→Ix s (W.setCell ⟨Bs,0,none⟩ v)) (h0:I [] w) (a₁:α→Act)
  (hassign:∀ (l:Nat) (x:α) (W:World) (K:Act→World→Prop),K (a₁ x) W →
   assign.wpIn (F.inRound l) (n-1-1) P (Exit.then K (fun _ _ _=>False)) { tmps:=(ps.zip (encs x)).foldl (fun t (p,v)=>t.setIfInBounds p v) a.tmps,defers:=[] } W)
  (hbody:∀ (l:Nat) (pre:List α) (x:α) (W:World),I pre W→pre.length<N→body.wpIn (F.inRound l) (n-1-1) P (fun e _ W'=>match e with
   | .normal=>KeepsOthers W W'∧Below w.heap.size W W'∧I (pre++[x]) W'
   | .ret=>KeepsOthers W W'∧Ix (pre++[x]) W'
   | _=>False) (a₁ x) W)
  (hdone:∀ (D:Nat) (xs:List α) (W:World),w.heap.size≤D→S xs→I xs W→W.heap[D]?=some (.deferred (some []))→Q .normal { a with defers:={ target:=.collected D,args:=#[] }::a.defers } W)
  (hstop:∀ (D:Nat) (pre:List α) (W:World),w.heap.size≤D→Sp pre→Ix pre W→W.heap[D]?=some (.deferred (some []))→Code.ret.wpIn F n P Q { a with defers:={ target:=.collected D,args:=#[] }::a.defers } W):
  (Code.rangeFunc g ps assign body).wpIn F n P Q a w:=by
 have kqq74:=@Hz _ @nn201;exact qq74
end
end
theorem Vs(w:World)(o o':Obj):{ (w.alloc o)with heap:=(w.alloc o).heap.setIfInBounds w.heap.size o' }=w.alloc o':=by
 have h:(w.heap.push o).setIfInBounds w.heap.size o'=w.heap.push o':=by
  apply Array.ext
  ·simp
  ·intro i h1 h2;rw[Array.getElem_setIfInBounds,Array.getElem_push,Array.getElem_push]
   ·by_cases e:w.heap.size=i
    ·rw[if_pos e,dif_neg oM]
    ·rw[if_neg e];simp at h2;rw[dif_pos oM,dif_pos oM]
   ·simpa using h1
 show{ w.alloc o with heap:=(w.heap.push o).setIfInBounds w.heap.size o' }={ w with heap:=w.heap.push o' }
 rw[h];rfl
theorem Ey{P:Program}{kt:TypeId}{k:IntKind}(hk:P.underlying kt=some (.int k))(em:Bool)(n:Nat)(v:Value)(w:World):(Instr.checkKey em (n+1) kt v).run P w = .ok () w:=by
 rw[Instr.checkKey];simp[run_underlying hk]
section
variable {P:Program} {T kt et:TypeId} (hT:P.underlying T=some (.map kt et)) (hk:P.underlying kt=some (.int .i64))
include hT hk
theorem Ka(w:World)(es:Array MapEntry)(c:Nat)(n:Int)(v:Value)(hf:Instr.findNow (.int .i64) (vI n) es.toList 0=some none):
  (Instr.mapUpdate T (.map (some w.heap.size)) (vI n) v).run P (w.alloc (.map es c))= .ok () (w.alloc (.map (es.push ⟨vI n,v,c⟩) (c+1))):=by
 have hb:(w.alloc (.map es c)).heap[w.heap.size]?=some (.map es c):=Ag w _;have h2:=Vs w (.map es c) (.map (es.push ⟨vI n,v,c⟩) (c+1));simp[Instr.mapUpdate,run_underlying hT,run_underlying hk,MapKept.run_getObj_map hb,MapKept.run_setObj_map _ hb,Ey hk _ 9999,Instr.findKey,hf,Result.andThen];exact h2
theorem Mm(w:World)(r:Nat)(es:Array MapEntry)(c:Nat)(hb:w.heap[r]?=some (.map es c))(n:Int)(i:Nat)(v:Value)(hf:Instr.findNow (.int .i64) (vI n) es.toList 0=some (some (i,v))):
  (Instr.lookup T (.map (some r)) (vI n) true).run P w = .ok (.tuple #[v,.bool true]) w:=by
 simp[Instr.lookup,run_underlying hT,run_underlying hk,MapKept.run_getObj_map hb,Ey hk _ 9999,Instr.findKey,hf,Result.andThen]
theorem Qm(w:World)(r:Nat)(es:Array MapEntry)(c:Nat)(hb:w.heap[r]?=some (.map es c))(n:Int)(z:Value)(hf:Instr.findNow (.int .i64) (vI n) es.toList 0=some none)
  (hz:(zeroValue et).run P w = .ok z w):
  (Instr.lookup T (.map (some r)) (vI n) true).run P w = .ok (.tuple #[z,.bool false]) w:=by
 simp[Instr.lookup,run_underlying hT,run_underlying hk,MapKept.run_getObj_map hb,Ey hk _ 9999,Instr.findKey,hf,hz,Result.andThen]
end
end Go.Proofs.YtlafbbnikgcdlaaGreatDoor
