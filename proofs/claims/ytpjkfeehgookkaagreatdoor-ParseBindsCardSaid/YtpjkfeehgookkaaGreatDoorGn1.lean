/- A part of the proof: Fr, Wp, Lp, Lq, Lr, Pm, Ap, W6, Pq. -/
import Derived.WalkKit
import Derived.WalkSpells
import Derived.WalkLawsBesides
import Derived.Sort.Grow
import Derived.Lib.Hide
import Derived.Lib.ItoaNum
import Derived.Lib.SlTrimSet
import Derived.Lib.ParseIntB
import Derived.Lib.AppendStr
import Derived.Lib.Builder
import Derived.Lib.Bytes
import Derived.Test.YtpjkfeehgookkaaGreatDoorRows
import Derived.Test.YtpjkfeehgookkaaGreatDoorShelf
import Derived.Laws.BytesString
import Derived.Laws.BytesArg
import Derived.Lib.ItoaLen
import Derived.Test.YtpjkfeehgookkaaGreatDoorGb0
namespace Go.Proofs.YtpjkfeehgookkaaGreatDoor
open Go.RowKit
open _root_.Go.Proofs.Tryz
set_option linter.all false
set_option maxHeartbeats 16000000
set_option maxRecDepth 100000
open List renaming length_cons→Lc',length_append→La',getElem?_eq_getElem→Lg',mem_cons_self→Lm',cons_append→Lp',append_assoc→Ls'
open Nat renaming lt_of_lt_of_le→Nl',le_refl→Nr'
open Bool renaming and_eq_true→Ba'
structure Fr (L:List Nat)(w w':World):Prop where
 os:w'.os=w.os
 tape:w'.tape=w.tape
 output:w'.output=w.output
 size:w.heap.size≤w'.heap.size
 block:∀ k,k<w.heap.size→k ∉ L→w'.heap[k]?=w.heap[k]?
theorem Fr.refl(L:List Nat)(w:World):Fr L w w:=⟨rfl,rfl,rfl,Nr' _,fun _ _ _=>rfl⟩
theorem Fr.step{L L':List Nat}{a b c:World}(h:Fr L a b)(k:Fr L' b c)(hL:∀ x ∈ L',x ∈ L∨a.heap.size≤x):Fr L a c :=
 ⟨k.os.trans h.os,k.tape.trans h.tape,k.output.trans h.output,Nat.le_trans h.size k.size,fun i hi hn =>
  (k.block i (Nl' hi h.size) (fun hx=>(hL i hx).elim hn (fun h'=>by omega))).trans (h.block i hi hn)⟩
theorem Fr.trans{L:List Nat}{a b c:World}(h:Fr L a b)(k:Fr L b c):Fr L a c:=h.step k fun _ hx => .inl hx
theorem Fr.trans0{L:List Nat}{a b c:World}(h:Fr L a b)(k:Fr [] b c):Fr L a c:=h.step k fun _ hx=>by cases hx
theorem Fr.mono{L L':List Nat}{a b:World}(h:Fr L a b)(hL:∀ x ∈ L,x ∈ L'∨a.heap.size≤x):Fr L' a b :=
 ⟨h.os,h.tape,h.output,h.size,fun i hi hn=>h.block i hi (fun hx=>(hL i hx).elim hn (fun h'=>by omega))⟩
theorem Fr.drew{L:List Nat}{a w:World}(h:Fr L a w):Fr L a w.drew:=⟨h.os,h.tape,h.output,h.size,h.block⟩
theorem Fr.drewN{L:List Nat}{a w:World}(h:Fr L a w)(n:Nat):Fr L a (w.drewN n):=h.trans ⟨rfl,rfl,rfl,Nr' _,fun _ _ _=>rfl⟩
theorem Fr.alloc{L:List Nat}{a w:World}(h:Fr L a w)(o:Obj):Fr L a (w.alloc o):=
 h.trans ⟨rfl,rfl,rfl,by simp,fun k hk _=>Below.heap_alloc _ _ _ hk⟩
theorem Fr.setCell{L:List Nat}{a w:World}(h:Fr L a w){p:Addr}(hp:p.block ∈ L∨a.heap.size≤p.block)(u:Value):Fr L a (w.setCell p u):=
 h.step (L':=[p.block]) ⟨rfl,rfl,rfl,by simp[World.setCell],fun k _ hk=>Below.heap_setCell _ _ _ _ (fun e=>hk (by simp[e]))⟩ (fun x hx=>by simp at hx;subst hx;exact hp)
theorem Fr.grown{L:List Nat}{a w w':World}{row:Option Nat}(h:Fr L a w)(hg:w.grownBy w' row)(hr:∀ k,row=some k→k ∈ L∨a.heap.size≤k):Fr L a w' :=
 h.step (L':=row.toList) ⟨hg.os,hg.tape,hg.output,hg.size,fun k hk hn=>hg.block k hk (fun e=>hn (by rw[← e];simp))⟩
  (fun x hx=>hr x (by cases row with|none=>simp at hx|some y=>simp at hx;rw[hx]))
theorem Fr.of_below{w w':World}(h:Below w.heap.size w w'):Fr [] w w':=⟨h.os,h.tape,h.output,h.size,fun k hk _=>h.block k hk⟩
theorem Fr.below{L:List Nat}{B:Nat}{w w':World}(h:Fr L w w')(hB:B≤w.heap.size)(hL:∀ x ∈ L,B≤x):Below B w w' :=
 ⟨h.os,h.tape,h.output,h.size,fun k hk=>h.block k (by omega) (fun hx=>by have:=hL k hx;omega)⟩
theorem Fr.below0{w w':World}(h:Fr [] w w'):Below w.heap.size w w':=h.below (Nr' _) (fun _ hx=>by cases hx)
theorem Fr.cell{L:List Nat}{w w':World}(h:Fr L w w'){p:Addr}(hp:p.block<w.heap.size)(hn:p.block ∉ L):w'.cell? p=w.cell? p:=World.cell?_of_block (w:=w) (h.block p.block hp hn)
theorem Fr.frozen{L:List Nat}{w w':World}(h:Fr L w w'){p:Addr}(hp:p.block<w.heap.size)(hn:p.block ∉ L):w'.frozen? p=w.frozen? p:=World.frozen?_of_block (w:=w) (h.block p.block hp hn)
theorem Fr.keep{L:List Nat}{w w':World}(h:Fr L w w'){k:Nat}{o:Obj}(hk:w.heap[k]?=some o)(hn:k ∉ L):w'.heap[k]?=some o :=
 (h.block k (Array.getElem?_eq_some_iff.1 hk).1 hn).trans hk
theorem Aa{w:World}{k:Nat}{o:Obj}(hk:w.heap[k]?=some o):k<w.heap.size:=(Array.getElem?_eq_some_iff.1 hk).1
theorem Ab(w:World)(o:Obj):(w.alloc o).heap[w.heap.size]?=some o:=heap_alloc_new w o
theorem Ad{w:World}{k:Nat}{o:Obj}(h:w.heap[k]?=some o)(o':Obj):(w.alloc o').heap[k]?=some o:=(heap_alloc_old w o' (Aa h)).trans h
theorem Af{w:World}{b:Nat}{cs:Array Value}{T:TypeId}{fr:Nat×Nat}(hb:w.heap[b]?=some (.cells cs T fr))(j:Nat):w.cell? ⟨b,j,none⟩=cs[j]?:=by simp[World.cell?,hb]
theorem Ap{w:World}{b:Nat}{cs:Array Value}{T:TypeId}(hb:w.heap[b]?=some (.cells cs T (0,0)))(j:Nat):w.frozen? ⟨b,j,none⟩=false:=by simp[World.frozen?,hb]
theorem Jw{a b:Bool}(h:a=b):Ending.returned (.bool a)= .returned (.bool b):=by rw[h]
theorem Ar(s:ByteArray):s.data.toList.length=s.size:=rfl
def Gu:LB:=[48,49,50,51,52,53,54,55,56,57]
def Bz(c:UInt8):Bool:=48≤c.toNat&&c.toNat≤57
def Dl(acc:Nat):LB→Nat
 | []=>acc
 | c::r=>Dl (acc * 10+(c.toNat-48)) r
def Dz(l:LB):Bool:=!(l.isEmpty||(l.head?==some 48&&decide (1<l.length))|| !l.all Bz)
def Ci(l:LB):Int:=if Dz l=true∧Dl 0 l≤4611686018427387903 then (Dl 0 l:Int)else 0
def De(l:LB):Int:=if Dz l=true then (if Dl 0 l≤4611686018427387903 then 0 else 2)else 5
theorem Lo:∀ (l:LB)(acc:Nat),acc≤Dl acc l
 | [],acc=>Nr' _
 | c::r,acc=>Nat.le_trans (by omega) (Lo r (acc * 10+(c.toNat-48)))
theorem Fo(c:UInt8):Bz c=true↔48≤c.toNat∧c.toNat≤57:=by simp[Bz]
theorem pu_nil(M acc:Nat):Lib.parseUintM M acc [] = .ok acc:=rfl
theorem pu_cons(M acc:Nat)(c:UInt8)(r:LB)(h:48≤c.toNat∧c.toNat≤57):Lib.parseUintM M acc (c::r)=if 1844674407370955162≤acc then .range else if M<acc * 10+(c.toNat-48)then .range else Lib.parseUintM M (acc * 10+(c.toNat-48)) r:=by
 have e:Lib.parseUintM M acc (c::r)=ite (48≤c.toNat∧c.toNat≤57) (if 1844674407370955162≤acc then .range else if M<acc * 10+(c.toNat-48)then .range else Lib.parseUintM M (acc * 10+(c.toNat-48)) r) _:=rfl;rw[e,if_pos h]
theorem Gk(M:Nat)(hM:M≤18446744073709551615):∀ (l:LB)(acc:Nat),acc≤M→l.all Bz=true →
  Lib.parseUintM M acc l=if Dl acc l≤M then .ok (Dl acc l)else .range
 | [],acc,ha,_=>by rw[pu_nil,show Dl acc []=acc from rfl,if_pos ha]
 | c::r,acc,ha,h=>by
  simp only[List.all_cons,Ba'] at h;have hc:=(Fo c).1 h.1;have hge:=Lo r (acc * 10+(c.toNat-48));have ev:Dl acc (c::r)=Dl (acc * 10+(c.toNat-48)) r:=rfl;rw[ev]
  have e0:Lib.parseUintM M acc (c::r)=if 1844674407370955162≤acc then .range else if M<acc * 10+(c.toNat-48)then .range else Lib.parseUintM M (acc * 10+(c.toNat-48)) r:=by
   rw[pu_cons M acc c r hc]
  rw[e0]
  generalize hq:acc * 10+(c.toNat-48)=q at *
  by_cases h1:1844674407370955162≤acc
  ·rw[if_pos h1,if_neg (by omega)]
  ·rw[if_neg h1];by_cases h2:M<q
   ·rw[if_pos h2,if_neg (by omega)]
   ·rw[if_neg h2];exact Gk M hM r q (by omega) h.2
theorem Dw{α:Type}(p:α→Bool)(l:List α):l.dropWhile p=[]↔∀ x ∈ l,p x=true:=by
 induction l with
 | nil=>simp
 | cons x r ih =>
  by_cases hx:p x=true
  ·rw[List.dropWhile_cons_of_pos hx,ih];simp[hx]
  ·rw[List.dropWhile_cons_of_neg hx];simp[hx]
theorem Iy(c:UInt8):Gu.contains c=Bz c:=by
 revert c;have h:∀ c:Fin 256,Gu.contains (UInt8.ofNat c.val)=Bz (UInt8.ofNat c.val):=by decide +kernel
 intro c;have:=h ⟨c.toNat,c.toNat_lt⟩;simpa using this
theorem H3(l:LB):Lib.trimS l Gu=[]↔l.all Bz=true:=by
 have hc:(fun c=>Gu.contains c)=Bz:=funext Iy;unfold Lib.trimS Lib.trimLeftS Lib.trimRightS;rw[hc];constructor
 ·intro h;rw[List.all_eq_true];intro x hx
  have h1:∀ y ∈ (l.reverse.dropWhile Bz).reverse,Bz y=true:=by
   intro y hy;have:=(Dw Bz _).1 h;exact this y hy
  have h2:∀ y ∈ l.reverse.dropWhile Bz,Bz y=true:=fun y hy=>h1 y (by simpa using hy)
  have h3:l.reverse.dropWhile Bz=[]:=by
   cases hd:l.reverse.dropWhile Bz with
   | nil=>rfl
   | cons y r =>
    have hn:=List.head?_dropWhile_not Bz l.reverse;rw[hd] at hn;simp at hn;have:=h2 y (by rw[hd];simp);rw[this] at hn;cases hn
  have h4:=(Dw Bz _).1 h3;exact h4 x (by simpa using hx)
 ·intro h;rw[List.all_eq_true] at h;have h3:l.reverse.dropWhile Bz=[]:=(Dw Bz _).2 (fun y hy=>h y (by simpa using hy));rw[h3];rfl
def Nv:LB:=[48,49,50,51,52,53,54,55,56,57,97,98,99,100,101,102]
def I0(n:Nat):UInt8:=Nv.getD n 0
def quo(c:UInt8):LB :=
 if c=34 then [92,34] else if c=92 then [92,92] else if c=10 then [92,110]
 else if 32≤c.toNat∧c.toNat≤126 then [c] else [92,120,I0 (c.toNat / 16),I0 (c.toNat % 16)]
def Co(l:LB):LB:=l.flatMap quo
def Dk(l:LB):LB:=34::(Co l++[34])
theorem Lh(c:UInt8):1≤(quo c).length∧(quo c).length≤4:=by
 unfold quo;by_cases h1:c=34
 ·rw[if_pos h1];decide
 ·rw[if_neg h1];by_cases h2:c=92
  ·rw[if_pos h2];decide
  ·rw[if_neg h2];by_cases h3:c=10
   ·rw[if_pos h3];decide
   ·rw[if_neg h3];by_cases h4:32≤c.toNat∧c.toNat≤126
    ·rw[if_pos h4];simp
    ·rw[if_neg h4];simp
theorem quo_ne(c:UInt8):quo c≠[]:=fun h=>by have:=(Lh c).1;rw[h] at this;simp at this
theorem Jr(l:LB):(Co l).length≤4 * l.length:=by
 induction l with
 | nil=>simp[Co]
 | cons c r ih =>
  have:=(Lh c).2;simp only[Co,List.flatMap_cons,La',Lc'] at ih ⊢;omega
def Gb(c:UInt8):Int:=if Nv.contains c then (Nv.idxOf c:Int)else -1
def Pu(a b:UInt8):UInt8:=UInt8.ofNat ((Gb a * 16 % 256).toNat ||| (Gb b % 16).toNat)
def Cy:Nat→List UInt8→List UInt8
 | 0,_=>[]
 | _+1,[]=>[]
 | _+1,[_]=>[]
 | f+1,c::d::r =>
  if c≠92 then c::Cy f (d::r)
  else if d=110 then 10::Cy f r
  else if d=120∧2≤r.length then Pu (r.getD 0 0) (r.getD 1 0)::Cy f (r.drop 2)
  else d::Cy f r
theorem Ie(f:Nat)(c:UInt8)(x:LB)(hx:x≠[]):Cy (f+1) (quo c++x)=c::Cy f x:=by
 unfold quo;split
 ·rename_i h;subst h;cases x with
  | nil=>exact absurd rfl hx
  | cons y r=>simp[Cy]
 ·split
  ·rename_i h;subst h;cases x with
   | nil=>exact absurd rfl hx
   | cons y r=>simp[Cy]
  ·split
   ·rename_i h;subst h;cases x with
    | nil=>exact absurd rfl hx
    | cons y r=>simp[Cy]
   ·split
    ·rename_i h0 h1 h2 h3
     cases x with
     | nil=>exact absurd rfl hx
     | cons y r=>simp[Cy,h1]
    ·have hp:∀ c:Fin 256,Pu (I0 (c.val / 16)) (I0 (c.val % 16))=UInt8.ofNat c.val:=by decide +kernel
     have:=hp ⟨c.toNat,c.toNat_lt⟩;simp only[UInt8.ofNat_toNat] at this
     cases x with
     | nil=>exact absurd rfl hx
     | cons y r=>simp[Cy,this]
theorem Qb{c d:UInt8}{x y:LB}(h:quo c++x=quo d++y):c=d∧x=y:=by
 have h1:=Ie 0 c (x++[0]) (by simp);have h2:=Ie 0 d (y++[0]) (by simp);rw[← Ls',h,Ls',h2] at h1;have hcd:c=d:=by simp only[List.cons.injEq] at h1;exact h1.1.symm
 subst hcd;exact⟨rfl,List.append_cancel_left h⟩
theorem Hq:∀ (l:LB)(f:Nat),l.length<f→Cy f (Co l++[34])=l
 | [],f+1,_=>by simp[Co,Cy]
 | c::l,f+1,h=>by
  simp only[Co,List.flatMap_cons,Ls'];rw[Ie f c _ (by simp)];have:=Hq l f (by simpa using h);simp only[Co] at this
  rw[this]
 | _,0,h=>by omega
def unq(s:LB):Option LB :=
 if Dk (Cy s.length (s.drop 1))=s then some (Cy s.length (s.drop 1))else none
def Ln(s:LB):LB:=(unq s).getD []
def Lm(s:LB):Int:=if (unq s).isSome then 0 else 5
theorem G5(l:LB):l.length≤(Co l).length:=by
 induction l with
 | nil=>simp
 | cons c r ih =>
  have:=(Lh c).1;simp only[Co,List.flatMap_cons,La',Lc'] at ih ⊢;omega
theorem Qw(l:LB):unq (Dk l)=some l:=by
 have h:Cy (Dk l).length ((Dk l).drop 1)=l:=by
  have:=G5 l;have e:(Dk l).drop 1=Co l++[34]:=rfl;rw[e];exact Hq l _ (by simp[Dk];omega)
 unfold unq;rw[h,if_pos rfl]
theorem H4{s l:LB}(h:unq s=some l):Dk l=s:=by
 unfold unq at h;split at h
 ·rename_i hq
  cases h;exact hq
 ·cases h
theorem unq_iff(s l:LB):unq s=some l↔Dk l=s :=
 ⟨H4,fun h=>by rw[← h,Qw]⟩
def Ds(c:UInt8):Bool:=(decide (97≤c.toNat)&&decide (c.toNat≤122))||c==95
def Cj(c:UInt8):Bool:=decide (65≤c.toNat)&&decide (c.toNat≤90)
def Cq(c:UInt8):Bool:=Ds c||Cj c||Bz c
def Lp:List LB:=[[108,101,116],[114,101,99],[105,110],[102,117,110],[109,97,116,99,104],[119,105,116,104],[101,110,100],[105,102],[116,104,101,110],[101,108,115,101],[116,114,117,101],[102,97,108,115,101],[114,97,105,115,101],[116,114,121],[110,111,116],[114,101,102],[97,114,114,97,121],[103,101,116],[115,101,116],[108,101,110],[115,105,122,101],[98,121,116,101],[99,97,116],[103,101,116,99],[112,117,116,99]]
def Ay:List LB:=[[45,62],[58,61],[38,38],[124,124],[40],[41],[123],[125],[61],[59],[44],[46],[124],[43],[45],[42],[47],[37],[60],[33]]
def D9:LB:=[32,108,101,116,32,114,101,99,32,105,110,32,102,117,110,32,109,97,116,99,104,32,119,105,116,104,32,101,110,100,32,105,102,32,116,104,101,110,32,101,108,115,101,32,116,114,117,101,32,102,97,108,115,101,32,114,97,105,115,101,32,116,114,121,32,110,111,116,32,114,101,102,32,97,114,114,97,121,32,103,101,116,32,115,101,116,32,108,101,110,32,115,105,122,101,32,98,121,116,101,32,99,97,116,32,103,101,116,99,32,112,117,116,99,32]
def J2:LB:=[45,62,32,58,61,32,38,38,32,124,124,32,40,32,41,32,123,32,125,32,61,32,59,32,44,32,46,32,124,32,43,32,45,32,42,32,47,32,37,32,60,32,33]
def Dd(s:LB):Bool:=Lp.contains s
def Bn(l:LB):LB:=l.takeWhile Cq
def q2:Bool→List UInt8→Option Nat
 | _,[]=>none
 | odd,c::r=>if c=34∧odd=false then some 1 else (q2 (c==92 && !odd) r).map (·+1)
def D1(l:LB):Option Nat:=q2 false l
theorem q2_skip(d:UInt8)(r:LB):q2 true (d::r)=(q2 false r).map (·+1):=by
 simp[q2]
theorem Sk(d:UInt8)(r:LB):D1 (92::d::r)=(D1 r).map (·+2):=by
 unfold D1;have e:q2 false (92::d::r)=(q2 true (d::r)).map (·+1):=by rw[q2];simp
 rw[e,q2_skip];cases q2 false r <;> rfl
theorem Sj(r:LB):D1 (34::r)=some 1:=by unfold D1;rw[q2];simp
theorem Ob(c:UInt8)(r:LB)(h:c≠92)(h2:c≠34):D1 (c::r)=(D1 r).map (·+1):=by
 unfold D1;rw[q2,if_neg (fun x=>h2 x.1),show(c==92)=false from bN.2 h];rfl
theorem Sl:D1 [92]=none:=by unfold D1;rw[q2];simp[q2]
def tok(l:LB):Except Int (Int×List UInt8×Int×Nat):=match l with
 | [] => .error 20
 | c::r =>
  if Ds c=true then .ok (if Dd (Bn l)=true then 6 else 1,Bn l,0,(Bn l).length)
  else if Cj c=true then .ok (2,Bn l,0,(Bn l).length)
  else if c=35∧r.head?.any Cj=true then .ok (3,Bn r,0,1+(Bn r).length)
  else if Bz c=true then (if De (Bn l)=0 then .ok (4,[],Ci (Bn l),(Bn l).length)else .error (if De (Bn l)=5 then 20 else De (Bn l)))
  else if c=34 then (match D1 r with
   | none => .error 20
   | some k=>match unq (l.take (1+k))with
    | none => .error 20
    | some t => .ok (5,t,0,1+k))
  else match Ay.find? (fun x=>x.isPrefixOf l)with
   | none => .error 20
   | some x => .ok (7,x,0,x.length)
structure Tok where
 k:Int
 at':Nat
 text:LB
 n:Int
def Cs:Nat→Nat→List UInt8→Except (Int×Nat) (List Tok)
 | _,at0,[] => .ok [⟨0,at0,[],0⟩]
 | 0,at0,_::_ => .error (20,at0)
 | f+1,at0,c::r =>
  if c=32∨c=10 then Cs f (at0+1) r
  else match tok (c::r)with
   | .error e => .error (e,at0)
   | .ok (k,t,n,m)=>match Cs f (at0+m) ((c::r).drop m)with
    | .error e => .error e
    | .ok l => .ok (⟨k,at0,t,n⟩::l)
def Bw(s:LB):Except (Int×Nat) (List Tok):=if 4096<s.length then .error (4,0)else Cs s.length 0 s
theorem Jy{c:UInt8}{r:LB}(h:Cq c=true):1≤(Bn (c::r)).length:=by
 unfold Bn;rw[List.takeWhile_cons_of_pos h];simp
theorem Fi(l:LB):(Bn l).length≤l.length:=(List.takeWhile_prefix _).length_le
theorem Mq:∀ (l:LB)(o:Bool)(k:Nat),q2 o l=some k→1≤k∧k≤l.length
 | [],o,k,h=>by simp[q2] at h
 | c::r,o,k,h=>by
  rw[q2] at h;split at h
  ·cases h;simp
  ·cases e:q2 (c==92 && !o) r with
   | none=>rw[e] at h;cases h
   | some j =>
    rw[e] at h;have:=Mq r _ j e;simp only[Option.map_some,Option.some.injEq] at h;simp only[Lc'];omega
theorem Dv:∀ x ∈ Ay,1≤x.length∧x.length≤2∧32 ∉ x∧10 ∉ x:=by decide
theorem Ex{l:LB}{k:Int}{t:LB}{n:Int}{m:Nat}(h:tok l = .ok (k,t,n,m)):1≤m∧m≤l.length:=by
 unfold tok at h;split at h
 ·cases h
 ·rename_i c r
  have hle:=Fi (c::r);split at h
  ·rename_i hs
   simp only[Except.ok.injEq,Prod.mk.injEq] at h;have:=Jy (r:=r) (show Cq c=true by unfold Cq;rw[hs];rfl);omega
  ·split at h
   ·rename_i hs
    simp only[Except.ok.injEq,Prod.mk.injEq] at h;have:=Jy (r:=r) (show Cq c=true by unfold Cq;rw[hs];simp);omega
   ·split at h
    ·simp only[Except.ok.injEq,Prod.mk.injEq] at h;have:=Fi r;simp only[Lc'];omega
    ·split at h
     ·rename_i hs
      split at h
      ·simp only[Except.ok.injEq,Prod.mk.injEq] at h;have:=Jy (r:=r) (show Cq c=true by unfold Cq;rw[hs];simp);omega
      ·cases h
     ·split at h
      ·split at h
       ·cases h
       ·rename_i k' hq
        split at h
        ·cases h
        ·simp only[Except.ok.injEq,Prod.mk.injEq] at h;have:=Mq r _ k' hq;simp only[Lc'];omega
      ·split at h
       ·cases h
       ·rename_i x hx
        simp only[Except.ok.injEq,Prod.mk.injEq] at h;have hm:=List.mem_of_find?_eq_some hx;have hp:=List.find?_some hx;have h1:=Dv x hm;have h2:=(List.isPrefixOf_iff_prefix.1 hp).length_le;omega
theorem Fq:∀ (n f g at0:Nat)(l:LB),l.length≤n→l.length≤f→l.length≤g→Cs f at0 l=Cs g at0 l:=by
 intro n
 induction n with
 | zero =>
  intro f g at0 l hn _ _;have:l=[]:=List.eq_nil_of_length_eq_zero (by omega);subst this
  cases f <;> cases g <;> rfl
 | succ n ih =>
  intro f g at0 l hn hf hg
  match l,hn,hf,hg with
  | [],_,_,_=>cases f <;> cases g <;> rfl
  | c::r,hn,hf,hg =>
   cases f with
   | zero=>simp at hf
   | succ f=>cases g with
    | zero=>simp at hg
    | succ g =>
     simp only[Lc'] at hn hf hg;rw[Cs,Cs];split
     ·exact ih f g _ r (by omega) (by omega) (by omega)
     ·cases e:tok (c::r)with
      | error x=>rfl
      | ok x =>
       obtain⟨k,t,m,j⟩:=x;have hl:=Ex e;have:=ih f g (at0+j) ((c::r).drop j) (by simp only[List.length_drop,Lc'];omega) (by simp only[List.length_drop,Lc'];omega) (by simp only[List.length_drop,Lc'];omega);simp only[this]
theorem Nh:∀ x ∈ Lp,x≠[]∧32 ∉ x:=by decide
theorem Ny(s:LB)(h0:s≠[])(hb:(32:UInt8) ∉ s):Dd s=true↔([32]++s++[32])<:+: D9:=by
 constructor
 ·intro h;have hm:s ∈ Lp:=by simpa [Dd] using h
  have hall:∀ x ∈ Lp,(List.range 140).any (fun i=>([32]++x++[32]).isPrefixOf (D9.drop i))=true:=by decide +kernel
  obtain⟨i,_,hi⟩:=List.any_eq_true.1 (hall s hm);exact(List.isPrefixOf_iff_prefix.1 hi).isInfix.trans (List.drop_suffix i D9).isInfix
 ·rintro⟨p,q,hpq⟩;have key:∀ i:Fin D9.length,D9[i]=32→(D9.drop (i.val+1)).takeWhile (· != 32)=[]∨Dd ((D9.drop (i.val+1)).takeWhile (· != 32))=true:=by decide +kernel
  have hl:p.length<D9.length:=by rw[← hpq];simp
  have h1:D9[p.length]=32:=by
   have:D9[p.length]?=some 32:=by rw[← hpq];simp
   rw[Lg' hl] at this;simpa using this
  have h2:D9.drop (p.length+1)=s++(32::q):=by rw[← hpq];simp
  have h3:(D9.drop (p.length+1)).takeWhile (· != 32)=s:=by
   rw[h2,List.takeWhile_append_of_pos (by intro a ha;simp;intro e;exact hb (e ▸ ha))];simp
  rcases key ⟨p.length,hl⟩ h1 with h|h
  ·rw[h3] at h;exact absurd h h0
  ·rw[h3] at h;exact h
theorem On(l:LB)(c:UInt8):∀ acc,Dl acc (l++[c])=Dl acc l * 10+(c.toNat-48):=by
 induction l with
 | nil=>intro acc;rfl
 | cons d r ih=>intro acc;exact ih (acc * 10+(d.toNat-48))
theorem dec_val:∀ (n:Nat)(l:LB),l.length=n→l≠[]→l.all Bz=true→(l.head?=some 48→l.length≤1)→Lib.decDigits (Dl 0 l)=l:=by
 intro n
 induction n with
 | zero=>intro l hl h0;exact absurd (List.eq_nil_of_length_eq_zero hl) h0
 | succ n ih =>
  intro l hl h0 hd hh
  obtain⟨y,c,rfl⟩:∃ y c,l=y++[c]:=⟨l.dropLast,l.getLast h0,(List.dropLast_concat_getLast h0).symm⟩
  rw[List.all_append] at hd;simp only[List.all_cons,List.all_nil,Bool.and_true,Ba'] at hd;obtain⟨hy,hc⟩:=hd;have hc2:=(Fo c).1 hc;rw[On,Lib.decDigits]
  by_cases e:y=[]
  ·subst e;have:Dl 0 []=0:=rfl;rw[this,dif_pos (by omega)];have:48+(0 * 10+(c.toNat-48))=c.toNat:=by omega
   rw[this];simp
  ·have hl2:1≤y.length:=List.length_pos_iff.2 e
   have hh2:y.head?≠some 48:=by
    intro h;have:=hh (by rw[List.head?_append,h];rfl);rw[La',List.length_singleton] at this;omega
   have hv:1≤Dl 0 y:=by
    cases y with
    | nil=>exact absurd rfl e
    | cons d r =>
     have h1:d≠48:=by simpa using hh2
     have h2:Dl 0 (d::r)=Dl (0 * 10+(d.toNat-48)) r:=rfl;rw[h2];have h3:=Lo r (0 * 10+(d.toNat-48));simp only[List.all_cons,Ba'] at hy;have h4:=(Fo d).1 hy.1;have h5:d.toNat≠48:=fun h=>h1 (UInt8.toNat_inj.1 (by rw[h];rfl))
     omega
   rw[dif_neg (by omega)];have e1:(Dl 0 y * 10+(c.toNat-48))/ 10=Dl 0 y:=by omega
   have e2:48+(Dl 0 y * 10+(c.toNat-48)) % 10=c.toNat:=by omega
   rw[e1,e2,ih y (by simp at hl;exact hl) e hy (fun h=>absurd h hh2)];simp
theorem Px{l:LB}(h:De l=0):Lib.itoa (Ci l)=l:=by
 unfold De at h;split at h
 ·rename_i hn
  split at h
  ·rename_i hv
   unfold Ci;rw[if_pos ⟨hn,hv⟩];unfold Lib.itoa;rw[if_neg (by omega)];unfold Dz at hn;simp only[Bool.not_eq_true',Bool.or_eq_false_iff,Bool.and_eq_false_iff,Bool.not_eq_false'] at hn;have h0:l≠[]:=by intro e;subst e;simp at hn
   rw[Int.toNat_natCast]
   exact dec_val l.length l rfl h0 hn.2 (fun hh=>by
    rcases hn.1.2 with h1|h1
    ·rw[hh] at h1;simp at h1
    ·simpa using h1)
  ·cases h
 ·cases h
def Cv(c:UInt8):Bool:=c==32||c==10
def Hb(b:LB):Prop:=b=[]∨∃ c r,b=c::r∧Cv c=true
theorem Ee{c:UInt8}(h:Cv c=true):c=32∨c=10:=by simpa [Cv] using h
theorem Np{c:UInt8}(h:Cv c=true):Cq c=false:=by
 rcases Ee h with rfl|rfl <;> decide
theorem L3{c:UInt8}(h:Cv c=true):Cj c=false:=by
 rcases Ee h with rfl|rfl <;> decide
theorem Gr(p:UInt8→Bool)(hp:∀ c,Cv c=true→p c=false){b:LB}(hb:Hb b):∀ l:LB,(l++b).takeWhile p=l.takeWhile p
 | []=>by
  rcases hb with rfl|⟨c,r,rfl,hc⟩
  ·rfl
  ·rw[List.nil_append,List.takeWhile_cons_of_neg (by simp[hp c hc])];rfl
 | c::l=>by
  by_cases h:p c=true
  ·rw[Lp',List.takeWhile_cons_of_pos h,List.takeWhile_cons_of_pos h,Gr p hp hb l]
  ·rw[Lp',List.takeWhile_cons_of_neg h,List.takeWhile_cons_of_neg h]
theorem Ko{b:LB}(hb:Hb b)(l:LB):Bn (l++b)=Bn l:=Gr Cq (fun _ h=>Np h) hb l
theorem Oa(b:LB):∀ (l:LB)(o:Bool)(k:Nat),q2 o l=some k→q2 o (l++b)=some k
 | [],o,k,h=>by simp[q2] at h
 | c::l,o,k,h=>by
  rw[Lp'];rw[q2] at h ⊢;split at h
  ·rename_i hc;rw[if_pos hc];exact h
  ·rename_i hc
   rw[if_neg hc]
   cases e:q2 (c==92 && !o) l with
   | none=>rw[e] at h;cases h
   | some j=>rw[e] at h;rw[Oa b l _ j e];exact h
theorem Km:∀ (b:LB)(o:Bool),(∀ c ∈ b,Cv c=true)→q2 o b=none
 | [],_,_=>rfl
 | c::b,o,h=>by
  have hc:=Ee (h c (Lm' ..));rw[q2,if_neg (by rintro⟨rfl,_⟩;revert hc;decide),Km b _ (fun x hx=>h x (List.mem_cons_of_mem _ hx))];rfl
theorem O5(b:LB)(hb:∀ c ∈ b,Cv c=true):∀ (l:LB)(o:Bool),q2 o l=none→q2 o (l++b)=none
 | [],o,_=>Km b o hb
 | c::l,o,h=>by
  rw[Lp'];rw[q2] at h ⊢;split at h
  ·cases h
  ·rename_i hc
   rw[if_neg hc]
   cases e:q2 (c==92 && !o) l with
   | none=>rw[O5 b hb l _ e];rfl
   | some j=>rw[e] at h;cases h
theorem O6:∀ (l:LB)(o:Bool)(k:Nat),q2 o l=some k→q2 o (l.take k)=some k
 | [],o,k,h=>by simp[q2] at h
 | c::l,o,k,h=>by
  have h':=h;rw[q2] at h;split at h
  ·rename_i hc;cases h;rw[List.take_succ_cons,q2,if_pos hc]
  ·rename_i hc
   cases e:q2 (c==92 && !o) l with
   | none=>rw[e] at h;cases h
   | some j =>
    rw[e] at h;simp only[Option.map_some,Option.some.injEq] at h;subst h;rw[List.take_succ_cons,q2,if_neg hc,O6 l _ j e];rfl
theorem Qn{b:LB}(hb:Hb b){x:LB}(hx:x ∈ Ay)(l:LB):x.isPrefixOf (l++b)=x.isPrefixOf l:=by
 rw[Bool.eq_iff_iff,List.isPrefixOf_iff_prefix,List.isPrefixOf_iff_prefix];obtain⟨_,_,h32,h10⟩:=Dv x hx;constructor
 ·intro h
  rcases hb with rfl|⟨c,r,rfl,hc⟩
  ·simpa using h
  ·rcases Nat.lt_or_ge l.length x.length with hl|hl
   ·exfalso;obtain⟨t,ht⟩:=h;have h1:(x++t)[l.length]?=some c:=by rw[ht];simp
    rw[List.getElem?_append_left hl] at h1;have hm:=List.mem_of_getElem? h1;rcases Ee hc with rfl|rfl
    ·exact h32 hm
    ·exact h10 hm
   ·exact List.prefix_of_prefix_length_le h (List.prefix_append l _) hl
 ·intro h;exact h.trans (List.prefix_append l b)
theorem Hd{p q:LB→Bool}:∀ (l:List LB),(∀ x ∈ l,p x=q x)→l.find? p=l.find? q
 | [],_=>rfl
 | x::l,h=>by
  rw[List.find?_cons,List.find?_cons,h x (Lm' ..),Hd l (fun y hy=>h y (List.mem_cons_of_mem _ hy))]
theorem Rx{b:LB}(hb:Hb b)(r:LB):(r++b).head?.any Cj=r.head?.any Cj:=by
 cases r with
 | cons d r=>rfl
 | nil =>
  rcases hb with rfl|⟨c,t,rfl,hc⟩
  ·rfl
  ·simp[L3 hc]
theorem tok_app(c:UInt8)(r b:LB)(hb:Hb b)(hq:c=34→(D1 r).isSome=true∨∀ x ∈ b,Cv x=true):tok (c::(r++b))=tok (c::r):=by
 have e1:Bn (c::(r++b))=Bn (c::r):=Ko hb (c::r);have e3:Ay.find? (fun x=>x.isPrefixOf (c::(r++b)))=Ay.find? (fun x=>x.isPrefixOf (c::r)):=Hd _ (fun x hx=>Qn hb hx (c::r));unfold tok;simp only[e1,Ko hb r,Rx hb r,e3];by_cases h34:c=34
 ·subst h34
  have hqq:D1 (r++b)=D1 r:=by
   unfold D1 at hq ⊢
   cases e:q2 false r with
   | some k=>exact Oa b r false k e
   | none =>
    rcases hq rfl with h|h
    ·rw[e] at h;cases h
    ·exact O5 b h r false e
  rw[hqq]
  cases e:D1 r with
  | none=>rfl
  | some k =>
   have hk:=Mq r false k e
   have et:(34::(r++b)).take (1+k)=(34::r).take (1+k):=by
    rw[← Lp',List.take_append_of_le_length (by simp;omega)]
   simp only[et]
 ·simp only[if_neg h34]
def Eb(k:Int)(t:LB)(n:Int):LB:=if k=3 then 35::t else if k=4 then Lib.itoa n else if k=5 then Dk t else t
theorem Gz(l:LB):l.take (Bn l).length=Bn l:=(List.prefix_iff_eq_take.1 (List.takeWhile_prefix Cq)).symm
theorem Gy(l:LB):Bn (Bn l)=Bn l:=by
 unfold Bn
 induction l with
 | nil=>rfl
 | cons c l ih =>
  by_cases h:Cq c=true
  ·rw[List.takeWhile_cons_of_pos h,List.takeWhile_cons_of_pos h,ih]
  ·rw[List.takeWhile_cons_of_neg h];rfl
theorem Gx{c:UInt8}(r:LB)(h:Cq c=true):Bn (c::r)=c::Bn r:=List.takeWhile_cons_of_pos h
theorem Nq{c:UInt8}(h:Ds c=true):Cq c=true:=by unfold Cq;rw[h];rfl
theorem Je{c:UInt8}(h:Cj c=true):Cq c=true:=by unfold Cq;rw[h];simp
theorem Rd{c:UInt8}(h:Bz c=true):Cq c=true:=by unfold Cq;rw[h];simp
theorem Na{l:LB}{k:Int}{t:LB}{n:Int}{m:Nat}(h:tok l = .ok (k,t,n,m)):1≤k∧k≤7:=by
 unfold tok at h;split at h
 ·cases h
 ·split at h
  ·simp only[Except.ok.injEq,Prod.mk.injEq] at h;obtain⟨rfl,_⟩:=h;split <;> omega
  ·split at h
   ·simp only[Except.ok.injEq,Prod.mk.injEq] at h;omega
   ·split at h
    ·simp only[Except.ok.injEq,Prod.mk.injEq] at h;omega
    ·split at h
     ·split at h
      ·simp only[Except.ok.injEq,Prod.mk.injEq] at h;omega
      ·cases h
     ·split at h
      ·split at h
       ·cases h
       ·split at h
        ·cases h
        ·simp only[Except.ok.injEq,Prod.mk.injEq] at h;omega
      ·split at h
       ·cases h
       ·simp only[Except.ok.injEq,Prod.mk.injEq] at h;omega
theorem Nd{l:LB}{k:Int}{t:LB}{n:Int}{m:Nat}(h:tok l = .ok (k,t,n,m)):l.take m=Eb k t n∧tok (l.take m)= .ok (k,t,n,m):=by
 have h0:=h;unfold tok at h;split at h
 ·cases h
 ·rename_i c r
  split at h
  ·rename_i h1
   simp only[Except.ok.injEq,Prod.mk.injEq] at h;obtain⟨rfl,rfl,rfl,rfl⟩:=h;rw[Gz];refine⟨?_,?_⟩
   ·unfold Eb;split <;> rfl
   ·have e:Bn (c::r)=c::Bn r:=Gx r (Nq h1);rw[e,tok,if_pos h1,← e,Gy]
  ·rename_i h1
   split at h
   ·rename_i h2
    simp only[Except.ok.injEq,Prod.mk.injEq] at h;obtain⟨rfl,rfl,rfl,rfl⟩:=h;rw[Gz];refine⟨rfl,?_⟩;have e:Bn (c::r)=c::Bn r:=Gx r (Je h2);rw[e,tok,if_neg h1,if_pos h2,← e,Gy]
   ·rename_i h2
    split at h
    ·rename_i h3
     simp only[Except.ok.injEq,Prod.mk.injEq] at h;obtain⟨rfl,rfl,rfl,rfl⟩:=h
     have e:(c::r).take (1+(Bn r).length)=35::Bn r:=by
      rw[Nat.add_comm,List.take_succ_cons,Gz,h3.1]
     rw[e];refine⟨rfl,?_⟩
     have hh:(Bn r).head?.any Cj=true:=by
      cases r with
      | nil=>exact absurd h3.2 (by simp)
      | cons d r=>rw[Gx r (Je (by simpa using h3.2))];simpa using h3.2
     rw[tok,if_neg (by decide),if_neg (by decide),if_pos ⟨rfl,hh⟩,Gy]
    ·rename_i h3
     split at h
     ·rename_i h4
      split at h
      ·rename_i h5
       simp only[Except.ok.injEq,Prod.mk.injEq] at h;obtain⟨rfl,rfl,rfl,rfl⟩:=h;rw[Gz];refine⟨(Px h5).symm,?_⟩;have e:Bn (c::r)=c::Bn r:=Gx r (Rd h4);have n3:c≠35:=by intro hh;subst hh;exact absurd h4 (by decide)
       rw[e,tok,if_neg h1,if_neg h2,if_neg (fun x=>n3 x.1),if_pos h4,← e,Gy,if_pos h5]
      ·cases h
     ·rename_i h4
      split at h
      ·rename_i h5
       split at h
       ·cases h
       ·rename_i j hq
        split at h
        ·cases h
        ·rename_i t' hu
         simp only[Except.ok.injEq,Prod.mk.injEq] at h;obtain⟨rfl,rfl,rfl,rfl⟩:=h;refine⟨(H4 hu).symm,?_⟩;subst h5;have e:(34::r).take (1+j)=34::r.take j:=by rw[Nat.add_comm,List.take_succ_cons]
         have hj:D1 (r.take j)=some j:=O6 r false j hq;rw[e] at hu ⊢
         have et:(34::r.take j).take (1+j)=34::r.take j:=by
          rw[Nat.add_comm,List.take_succ_cons,List.take_take,Nat.min_self]
         rw[tok,if_neg (by decide),if_neg (by decide),if_neg (fun x=>absurd x.1 (by decide)),if_neg (by decide),if_pos rfl];simp only[hj,et,hu]
      ·rename_i h5
       split at h
       ·cases h
       ·rename_i x hx
        simp only[Except.ok.injEq,Prod.mk.injEq] at h;obtain⟨rfl,rfl,rfl,rfl⟩:=h;have hp:=List.isPrefixOf_iff_prefix.1 (List.find?_some (p:=fun x:LB=>x.isPrefixOf (c::r)) hx);have hm:=List.mem_of_find?_eq_some hx;have e:(c::r).take x.length=x:=(List.prefix_iff_eq_take.1 hp).symm;rw[e];refine⟨rfl,?_⟩
        obtain⟨d,y,rfl⟩:∃ d y,x=d::y:=by
         have:=(Dv x hm).1
         cases x with
         | nil=>simp at this
         | cons d y=>exact⟨d,y,rfl⟩
        have hd:d=c:=by
         obtain⟨z,hz⟩:=hp;simp at hz;exact hz.1
        subst hd;have all:∀ x ∈ Ay,Ds (x.headD 0)=false∧Cj (x.headD 0)=false∧x.headD 0≠35∧Bz (x.headD 0)=false∧x.headD 0≠34∧Ay.find? (fun z=>z.isPrefixOf x)=some x:=by decide +kernel
        have ha:=all _ hm;rw[List.headD_cons] at ha;obtain⟨a1,a2,a3,a4,a5,a6⟩:=ha;rw[tok,if_neg (by simp[a1]),if_neg (by simp[a2]),if_neg (fun x=>a3 x.1),if_neg (by simp[a4]),if_neg a5];simp only[a6]
theorem Nf{l:LB}{k:Int}{t:LB}{n:Int}{m:Nat}(h:tok l = .ok (k,t,n,m)):l.take m=Eb k t n:=(Nd h).1
theorem Nb{l:LB}{k:Int}{t:LB}{n:Int}{m:Nat}(h:tok l = .ok (k,t,n,m)):(Eb k t n).length=m:=by
 rw[← Nf h,List.length_take];have:=Ex h;omega
theorem Qt{l:LB}{k:Int}{t:LB}{n:Int}{m:Nat}(h:tok l = .ok (k,t,n,m))(b:LB)(hb:Hb b):tok (l.take m++b)= .ok (k,t,n,m):=by
 have h2:=(Nd h).2
 cases e:l.take m with
 | nil=>rw[e,tok] at h2;cases h2
 | cons c r =>
  rw[e] at h2
  rw[Lp',tok_app c r b hb (fun h34=>by
   left
   subst h34
   rw[tok,if_neg (by decide),if_neg (by decide),if_neg (fun x=>absurd x.1 (by decide)),if_neg (by decide),if_pos rfl] at h2
   cases eq:D1 r with
   | none=>rw[eq] at h2;cases h2
   | some k=>rfl),h2]
theorem Gh(f a:Nat):Cs f a [] = .ok [⟨0,a,[],0⟩]:=by cases f <;> rfl
theorem Dq(f a:Nat){c:UInt8}(r:LB)(h:Cv c=true):Cs (f+1) a (c::r)=Cs f (a+1) r:=by
 rw[Cs,if_pos (Ee h)]
theorem Eg(f a:Nat){c:UInt8}(r:LB)(h:Cv c=false):Cs (f+1) a (c::r)=match tok (c::r)with
  | .error e => .error (e,a)
  | .ok (k,t,n,m)=>match Cs f (a+m) ((c::r).drop m)with
   | .error e => .error e
   | .ok l => .ok (⟨k,a,t,n⟩::l):=by
 rw[Cs,if_neg (fun hc=>by rw[Bool.eq_false_iff] at h;exact h (by simpa [Cv] using hc))]
 all_goals
  cases tok (c::r)with
  | error e=>rfl
  | ok x=>rfl
theorem Hn{P:Nat→List UInt8→List Tok→Prop}(h0:∀ a,P a [] [⟨0,a,[],0⟩])
  (h1:∀ a c r ts,Cv c=true→P (a+1) r ts→P a (c::r) ts)
  (h2:∀ a c r k t n m ts,Cv c=false→tok (c::r)= .ok (k,t,n,m)→P (a+m) ((c::r).drop m) ts→P a (c::r) (⟨k,a,t,n⟩::ts)):
  ∀ (f a:Nat) (l:LB) (ts:List Tok),Cs f a l = .ok ts→P a l ts
 | f,a,[],ts,h=>by rw[Gh] at h;cases h;exact h0 a
 | 0,a,c::r,ts,h=>by cases h
 | f+1,a,c::r,ts,h=>by
  cases hb:Cv c with
  | true=>rw[Dq f a r hb] at h;exact h1 a c r ts hb (Hn h0 h1 h2 f (a+1) r ts h)
  | false =>
   rw[Eg f a r hb] at h
   cases ht:tok (c::r)with
   | error e=>rw[ht] at h;cases h
   | ok x =>
    obtain⟨k,t,n,m⟩:=x;rw[ht] at h;simp only at h
    cases hl:Cs f (a+m) ((c::r).drop m)with
    | error e=>rw[hl] at h;cases h
    | ok l'=>rw[hl] at h;cases h;exact h2 a c r k t n m l' hb ht (Hn h0 h1 h2 f (a+m) _ l' hl)
def C7(t:Tok):Int×List UInt8×Int:=(t.k,t.text,t.n)
def Qx(y:Tok):Prop:=1≤y.k∧y.k≤7∧1≤(Eb y.k y.text y.n).length∧∀ b,Hb b→tok (Eb y.k y.text y.n++b)= .ok (y.k,y.text,y.n,(Eb y.k y.text y.n).length)
theorem Ic{f a:Nat}{l:LB}{ts:List Tok}(h:Cs f a l = .ok ts):∃ ys,ts=ys++[⟨0,a+l.length,[],0⟩]∧∀ y ∈ ys,Qx y:=by
 refine Hn (P:=fun a l ts=>∃ ys,ts=ys++[⟨0,a+l.length,[],0⟩]∧∀ y ∈ ys,Qx y) ?_ ?_ ?_ f a l ts h
 ·intro a;exact⟨[],rfl,fun _ h=>by cases h⟩
 ·rintro a c r ts _ ⟨ys,rfl,hy⟩;exact⟨ys,by rw[Lc'];simp only[List.append_cancel_left_eq,List.cons.injEq,Tok.mk.injEq,true_and,and_true];omega,hy⟩
 ·rintro a c r k t n m ts _ ht ⟨ys,rfl,hy⟩;have hm:=Ex ht;have hk:=Na ht;have hl:=Nb ht;refine⟨⟨k,a,t,n⟩::ys,?_,?_⟩
  ·rw[List.length_drop,Lp'];simp only[List.append_cancel_left_eq,List.cons.injEq,Tok.mk.injEq,true_and,and_true];omega
  ·intro y hy';rcases List.mem_cons.1 hy' with rfl|hy'
   ·refine⟨hk.1,hk.2,by rw[hl];exact hm.1,fun b hb=>?_⟩;show tok (Eb k t n++b)=_;rw[← Nf ht,Qt ht b hb];simp only[List.length_take];rw[Nat.min_eq_left hm.2]
   ·exact hy y hy'
theorem M9{l:LB}{e:Int}(h:tok l = .error e):e=20∨e=2:=by
 unfold tok at h;split at h
 ·cases h;exact .inl rfl
 ·split at h
  ·cases h
  ·split at h
   ·cases h
   ·split at h
    ·cases h
    ·split at h
     ·split at h
      ·cases h
      ·rename_i c r _ _ _ _ hr
       cases h;unfold De at hr ⊢;split at hr
       ·split at hr
        ·exact absurd rfl hr
        ·rename_i h1 h2;rw[if_pos h1,if_neg h2];simp
       ·rename_i h1;rw[if_neg h1];simp
     ·split at h
      ·split at h
       ·cases h;exact .inl rfl
       ·split at h
        ·cases h;exact .inl rfl
        ·cases h
      ·split at h
       ·cases h;exact .inl rfl
       ·cases h
theorem Jn:∀ (f a:Nat)(l:LB)(e:Int)(p:Nat),l.length≤f→Cs f a l = .error (e,p)→a≤p∧p<a+l.length∧(e=20∨e=2)
 | f,a,[],e,p,_,h=>by rw[Gh] at h;cases h
 | 0,a,c::r,e,p,hf,_=>by simp at hf
 | f+1,a,c::r,e,p,hf,h=>by
  simp only[Lc'] at hf ⊢
  cases hb:Cv c with
  | true =>
   rw[Dq f a r hb] at h;have:=Jn f (a+1) r e p (by omega) h
   exact⟨by omega,by omega,this.2.2⟩
  | false =>
   rw[Eg f a r hb] at h
   cases ht:tok (c::r)with
   | error x=>rw[ht] at h;cases h;exact⟨by omega,by omega,M9 ht⟩
   | ok x =>
    obtain⟨k,t,n,m⟩:=x;have hm:=Ex ht;rw[Lc'] at hm;rw[ht] at h;simp only at h
    cases hl:Cs f (a+m) ((c::r).drop m)with
    | error x =>
     rw[hl] at h;cases h;have:=Jn f (a+m) _ e p (by rw[List.length_drop,Lc'];omega) hl;rw[List.length_drop,Lc'] at this
     exact⟨by omega,by omega,this.2.2⟩
    | ok l'=>rw[hl] at h;cases h
def Ss(d:Nat)(t:Tok):Tok:=⟨t.k,t.at'+d,t.text,t.n⟩
def Og(d:Nat):Except (Int×Nat) (List Tok)→Except (Int×Nat) (List Tok)
 | .error (e,p)=> .error (e,p+d)
 | .ok ts => .ok (ts.map (Ss d))
theorem Hg(d:Nat):∀ (f a:Nat)(l:LB),Cs f (a+d) l=Og d (Cs f a l)
 | f,a,[]=>by rw[Gh,Gh];rfl
 | 0,a,c::r=>rfl
 | f+1,a,c::r=>by
  cases hb:Cv c with
  | true=>rw[Dq f _ r hb,Dq f _ r hb,← Hg d f (a+1) r];congr 1;omega
  | false =>
   rw[Eg f _ r hb,Eg f _ r hb]
   cases tok (c::r)with
   | error x=>rfl
   | ok x =>
    obtain⟨k,t,n,m⟩:=x;simp only;have e:a+d+m=a+m+d:=by omega
    rw[e,Hg d f (a+m) _]
    cases Cs f (a+m) ((c::r).drop m)with
    | error x=>rfl
    | ok l'=>rfl
inductive Av where
 | mk (k a:Int) (nm:LB) (n:Int) (s:LB) (ls:List LB) (args:List Av)
inductive Ah where
 | mk (k a:Int) (nm:LB) (n:Int) (s:LB) (ls:List LB) (args:List Ah) (arms:List (Av×Ah))
def Av.zero:Av:=.mk 0 0 [] 0 [] [] []
def Ah.zero:Ah:=.mk 0 0 [] 0 [] [] [] []
def Ah.at_:Ah→Int
 | .mk _ a _ _ _ _ _ _=>a
inductive PNT where
 | pat|patom
 | marked (x:Av)
 | recL (a:Int) (ls:List LB) (args:List Av)
inductive NT where
 | seq|item|fn
 | arms (k a:Int)
 | armsL (k a:Int) (x:Ah) (acc:List (Av×Ah))
 | or|and|cmp|sum
 | sumL (a:Ah)
 | prod
 | prodL (a:Ah)
 | unary|app
 | opL (n a:Int) (m:Nat) (acc:List Ah)
 | appL (a:Ah)
 | post
 | postL (a:Ah)
 | atom
 | braces (a:Int)
 | recL (a:Int) (ls:List LB) (args:List Ah)
inductive Cmd where
 | retE (x:Ah)
 | retP (x:Av)
 | look (k:Tok→Bool→Cmd)
 | ahead (k:Tok→Cmd)
 | adv (k:Cmd)
 | fail (k:Cmd)
 | callE (nt:NT) (k:Ah→Cmd)
 | callP (nt:PNT) (k:Av→Cmd)
def It(t:Tok):Bool:=t.k==6||t.k==7
def isB(t:Tok)(ok:Bool)(l:List LB):Bool:=ok&&It t&&l.contains t.text
def isC(l:List LB)(k:Bool→Cmd):Cmd:=.look fun t ok=>k (isB t ok l)
def C0(s:LB)(k:Bool→Cmd):Cmd:=.look fun t ok=>if isB t ok [s]=true then .adv (k true)else k false
def Bk(s:LB)(k:Cmd):Cmd:=.look fun t ok=>if isB t ok [s]=true then .adv k else .fail k
def Hs(t:Tok)(ok:Bool):Bool:=ok&&t.k==1
def Er(k:LB→Cmd):Cmd:=.look fun t ok=>if Hs t ok=true then .adv (k t.text)else .fail (k [])
def Bu(t:Tok)(ok:Bool):Bool:=(ok&&(t.k==1||t.k==2||t.k==4||t.k==5))||isB t ok [[116,114,117,101],[102,97,108,115,101],[40],[123],[33]]
def Aw(s:LB):Int:=if s=[61] then 7 else if s=[60] then 8 else if s=[43] then 1 else if s=[45] then 2 else if s=[42] then 3 else if s=[47] then 4 else 5
def Bg(s:LB):Int×Nat :=
 if s=[114,101,102] then (10,1)else if s=[108,101,110] then (16,1)else if s=[115,105,122,101] then (17,1)
 else if s=[103,101,116,99] then (20,1)else if s=[112,117,116,99] then (21,1)else if s=[97,114,114,97,121] then (13,2)
 else if s=[103,101,116] then (14,2)else if s=[98,121,116,101] then (18,2)else if s=[99,97,116] then (19,2)
 else if s=[115,101,116] then (15,3)else (0,0)
def Dg(k a:Int)(args:List Ah):Ah:=.mk k a [] 0 [] [] args []
def opE(n a:Int)(args:List Ah):Ah:=.mk 19 a [] n [] [] args []
def Bp:PNT→Cmd
 | .pat => .look fun t ok=>if (ok&&t.k==3)=true then .adv (.callP .patom fun x => .retP (.mk 8 t.at' t.text 0 [] [] [x]))else .callP .patom .retP
 | .patom => .look fun t ok =>
  if ok=false then .retP .zero
  else if t.k=1 then .adv (.retP (if t.text=[95] then .mk 1 t.at' [] 0 [] [] [] else .mk 2 t.at' t.text 0 [] [] []))
  else if t.k=2 then .adv (.retP (.mk 7 t.at' t.text 0 [] [] []))
  else if t.k=4 then .adv (.retP (.mk 3 t.at' [] t.n [] [] []))
  else if t.k=5 then .adv (.retP (.mk 4 t.at' [] 0 t.text [] []))
  else .callP (.marked (.mk 0 t.at' [] 0 [] [] [])) .retP
 | .marked (.mk k a nm n s ls args)=>
  C0 [45] fun b=>if b=true then (.look fun t ok=>if t.k=4 then (if ok=true then .adv (.retP (.mk 3 a nm (wrap64 (-t.n)) s ls args))else .retP (.mk 3 a nm (wrap64 (-t.n)) s ls args))else .fail (.retP (.mk 3 a nm n s ls args)))else
  C0 [116,114,117,101] fun b=>if b=true then .retP (.mk 5 a nm 1 s ls args)else
  C0 [102,97,108,115,101] fun b=>if b=true then .retP (.mk 5 a nm n s ls args)else
  C0 [40] fun b=>if b=true then (C0 [41] fun b=>if b=true then .retP (.mk 6 a nm n s ls args)else .callP .pat fun x=>Bk [41] (.retP x))else
  C0 [123] fun b=>if b=true then (C0 [125] fun b=>if b=true then .retP (.mk 9 a nm n s ls args)else .look fun _ ok=>if ok=true then .callP (.recL a ls args) .retP else Bk [125] (.retP (.mk 9 a nm n s ls args)))else
  .fail (.retP (.mk k a nm n s ls args))
 | .recL a ls args=>Er fun x=>Bk [61] (.callP .pat fun p=>C0 [44] fun b=>if b=true then .callP (.recL a (ls++[x]) (args++[p])) .retP else Bk [125] (.retP (.mk 9 a [] 0 [] (ls++[x]) (args++[p]))))
def body:NT→Cmd
 | .seq => .callE .item fun a => .look fun t _=>C0 [59] fun b=>if b=true then .callE .seq fun c => .retE (Dg 20 t.at' [a,c])else .retE a
 | .item => .look fun t _ =>
  C0 [108,101,116] fun b=>if b=true then
   (C0 [114,101,99] fun r=>Er fun nm=>Bk [61] (.callE (if r=true then .fn else .seq) fun x=>Bk [105,110] (.callE .seq fun y => .retE (.mk (if r=true then 10 else 9) t.at' nm 0 [] [] [x,y] []))))else
  isC [[102,117,110]] fun b=>if b=true then .callE .fn .retE else
  C0 [109,97,116,99,104] fun b=>if b=true then .callE (.arms 16 t.at') .retE else
  C0 [116,114,121] fun b=>if b=true then .callE (.arms 17 t.at') .retE else
  C0 [105,102] fun b=>if b=true then (.callE .seq fun x=>Bk [116,104,101,110] (.callE .item fun y=>Bk [101,108,115,101] (.callE .item fun z => .retE (Dg 11 t.at' [x,y,z]))))else
  C0 [114,97,105,115,101] fun b=>if b=true then (.callE .post fun x => .retE (Dg 18 t.at' [x]))else
  .callE .or fun a => .look fun t _=>C0 [58,61] fun b=>if b=true then .callE .item fun c => .retE (opE 12 t.at' [a,c])else .retE a
 | .fn => .look fun t _=>Bk [102,117,110] (Er fun nm=>Bk [45,62] (.callE .seq fun x => .retE (.mk 7 t.at' nm 0 [] [] [x] [])))
 | .arms k a => .callE .seq fun x=>Bk [119,105,116,104] (.look fun _ ok=>if ok=true then .callE (.armsL k a x []) .retE else Bk [101,110,100] (.retE (.mk k a [] 0 [] [] [x] [])))
 | .armsL k a x acc => .callP .pat fun p=>Bk [45,62] (.callE .seq fun y=>C0 [124] fun b=>if b=true then .callE (.armsL k a x (acc++[(p,y)])) .retE else Bk [101,110,100] (.retE (.mk k a [] 0 [] [] [x] (acc++[(p,y)]))))
 | .or => .callE .and fun a => .look fun t _=>C0 [124,124] fun b=>if b=true then .callE .or fun c => .retE (Dg 22 t.at' [a,c])else .retE a
 | .and => .callE .cmp fun a => .look fun t _=>C0 [38,38] fun b=>if b=true then .callE .and fun c => .retE (Dg 21 t.at' [a,c])else .retE a
 | .cmp => .callE .sum fun a => .look fun t ok=>if isB t ok [[61],[60]]=true then .adv (.callE .sum fun c => .retE (opE (Aw t.text) t.at' [a,c]))else .retE a
 | .sum => .callE .prod fun a => .callE (.sumL a) .retE
 | .sumL a => .look fun t ok=>if isB t ok [[43],[45]]=true then .adv (.callE .prod fun c => .callE (.sumL (opE (Aw t.text) t.at' [a,c])) .retE)else .retE a
 | .prod => .callE .unary fun a => .callE (.prodL a) .retE
 | .prodL a => .look fun t ok=>if isB t ok [[42],[47],[37]]=true then .adv (.callE .unary fun c => .callE (.prodL (opE (Aw t.text) t.at' [a,c])) .retE)else .retE a
 | .unary => .look fun t _=>C0 [45] fun b=>if b=true then (.callE .unary fun x => .retE (opE 6 t.at' [x]))else
  C0 [110,111,116] fun b=>if b=true then (.callE .unary fun x => .retE (opE 9 t.at' [x]))else .callE .app .retE
 | .app => .look fun t ok =>
  if (ok&&t.k==3)=true then .adv (.callE .post fun x => .retE (.mk 15 t.at' t.text 0 [] [] [x] []))
  else if (ok&&t.k==6&&decide (0<(Bg t.text).1))=true then .adv (.callE (.opL (Bg t.text).1 t.at' (Bg t.text).2 []) .retE)
  else .callE .post fun a => .callE (.appL a) .retE
 | .opL n a m acc=>match m with
  | 0 => .retE (opE n a acc)
  | m+1 => .callE .post fun x => .callE (.opL n a m (acc++[x])) .retE
 | .appL a => .look fun t ok=>if Bu t ok=true then (.callE .post fun x => .callE (.appL (Dg 8 a.at_ [a,x])) .retE)else .retE a
 | .post => .look fun t _=>C0 [33] fun b=>if b=true then (.callE .post fun x => .retE (opE 11 t.at' [x]))else .callE .atom fun a => .callE (.postL a) .retE
 | .postL a => .look fun t ok=>if isB t ok [[46]]=true then .adv (Er fun nm => .callE (.postL (.mk 14 t.at' nm 0 [] [] [a] [])) .retE)else .retE a
 | .atom => .look fun t ok =>
  if (Bu t ok && !isB t ok [[33]])=true then .adv (
   if t.k=1 then .retE (.mk 1 t.at' t.text 0 [] [] [] [])
   else if t.k=2 then .retE (.mk 6 t.at' t.text 0 [] [] [] [])
   else if t.k=4 then .retE (.mk 2 t.at' [] t.n [] [] [] [])
   else if t.k=5 then .retE (.mk 3 t.at' [] 0 t.text [] [] [])
   else if t.text=[116,114,117,101] then .retE (.mk 4 t.at' [] 1 [] [] [] [])
   else if t.text=[102,97,108,115,101] then .retE (.mk 4 t.at' [] 0 [] [] [] [])
   else if t.text=[123] then .callE (.braces t.at') .retE
   else C0 [41] fun b=>if b=true then .retE (.mk 5 t.at' [] 0 [] [] [] [])else .callE .seq fun x=>Bk [41] (.retE x))
  else .fail (.retE .zero)
 | .braces a=>C0 [125] fun b=>if b=true then .retE (.mk 12 a [] 0 [] [] [] [])else
  .ahead fun n => .look fun t ok=>if (t.k==1&&(n.k==7&&n.text==[61]))=true then (if ok=true then .callE (.recL a [] []) .retE else Bk [125] (.retE (.mk 12 a [] 0 [] [] [] [])))else
   .callE .seq fun x=>Bk [119,105,116,104] (Er fun nm=>Bk [61] (.callE .seq fun y=>Bk [125] (.retE (.mk 13 a nm 0 [] [] [x,y] []))))
 | .recL a ls args=>Er fun nm=>Bk [61] (.callE .seq fun x=>C0 [44] fun b=>if b=true then .callE (.recL a (ls++[nm]) (args++[x])) .retE else Bk [125] (.retE (.mk 12 a [] 0 [] (ls++[nm]) (args++[x]) [])))
structure St where
 i:Nat
 ok:Bool
inductive Rs where
 | e (x:Ah)
 | p (x:Av)
def Fv(ts:List Tok)(i:Nat):Option Tok:=ts[min (i+1) (ts.length-1)]?
inductive Run (ts:List Tok):Cmd→St→Rs→St→Prop
 | retE {x st}:Run ts (.retE x) st (.e x) st
 | retP {x st}:Run ts (.retP x) st (.p x) st
 | look {k t st r st'} (h:ts[st.i]?=some t) (hk:Run ts (k t st.ok) st r st'):Run ts (.look k) st r st'
 | ahead {k t st r st'} (h:Fv ts st.i=some t) (hk:Run ts (k t) st r st'):Run ts (.ahead k) st r st'
 | adv {k st r st'} (hk:Run ts k ⟨st.i+1,st.ok⟩ r st'):Run ts (.adv k) st r st'
 | fail {k st r st'} (hk:Run ts k ⟨st.i,false⟩ r st'):Run ts (.fail k) st r st'
 | callE {nt k st x st1 r st'} (h:Run ts (body nt) st (.e x) st1) (hk:Run ts (k x) st1 r st'):Run ts (.callE nt k) st r st'
 | callP {nt k st x st1 r st'} (h:Run ts (Bp nt) st (.p x) st1) (hk:Run ts (k x) st1 r st'):Run ts (.callP nt k) st r st'
theorem Run.det{ts:List Tok}{c:Cmd}{st:St}{r:Rs}{st':St}(h:Run ts c st r st'):∀ {r2:Rs}{st2:St},Run ts c st r2 st2→r2=r∧st2=st':=by
 induction h with
 | retE=>intro r2 st2 h2;cases h2;exact⟨rfl,rfl⟩
 | retP=>intro r2 st2 h2;cases h2;exact⟨rfl,rfl⟩
 | look h hk ih =>
  intro r2 st2 h2
  cases h2 with
  | look h' hk'=>rw[h] at h';cases h';exact ih hk'
 | ahead h hk ih =>
  intro r2 st2 h2
  cases h2 with
  | ahead h' hk'=>rw[h] at h';cases h';exact ih hk'
 | adv hk ih=>intro r2 st2 h2;cases h2 with|adv hk'=>exact ih hk'
 | fail hk ih=>intro r2 st2 h2;cases h2 with|fail hk'=>exact ih hk'
 | callE h hk ih1 ih2 =>
  intro r2 st2 h2
  cases h2 with
  | callE h' hk' =>
   obtain⟨e1,e2⟩:=ih1 h';cases e1;cases e2
   exact ih2 hk'
 | callP h hk ih1 ih2 =>
  intro r2 st2 h2
  cases h2 with
  | callP h' hk' =>
   obtain⟨e1,e2⟩:=ih1 h';cases e1;cases e2;exact ih2 hk'
theorem Run.grows{ts:List Tok}{c:Cmd}{st:St}{r:Rs}{st':St}(h:Run ts c st r st'):st.i≤st'.i∧(st'.ok=true→st.ok=true):=by
 induction h with
 | retE=>exact⟨Nr' _,id⟩
 | retP=>exact⟨Nr' _,id⟩
 | look h hk ih=>exact ih
 | ahead h hk ih=>exact ih
 | adv hk ih=>exact⟨Nat.le_trans (Nat.le_succ _) ih.1,ih.2⟩
 | fail hk ih=>exact⟨ih.1,fun h=>by have:=ih.2 h;cases this⟩
 | callE h hk ih1 ih2=>exact⟨Nat.le_trans ih1.1 ih2.1,fun h=>ih1.2 (ih2.2 h)⟩
 | callP h hk ih1 ih2=>exact⟨Nat.le_trans ih1.1 ih2.1,fun h=>ih1.2 (ih2.2 h)⟩
def Lt(v v':Value)(B:Nat):Prop:=∀ g,v'.ownBlock=some g→v.ownBlock=some g∨B≤g
section
variable {P:Program} (w:World)
theorem G9(t ty e:TypeId)(i:TypeInfo)(z:Value)(size bytes:Nat)(ht:P.underlying t=some (.slice e))(hi:P.info? e=some i)(hz:i.zero=some z)
  (hsize:i.size=size) (hby:i.bytes=bytes) (hzs:z.cells.size=size) (hsz:0<size)
  (v:Value) (n:Nat) (xs:List Value) (hown:w.ownsRow 0 e size v n xs)
  (a:Addr) (m c:Nat) (news:List Value) (hl:news.length=m * size) (hnews:∀ j u,news[j]?=some u→w.cell? (a.add j)=some u) (h1:∀ u ∈ news,u.oneCell'=true)
  (h63:n+m≤maxLen) (hbytes:(n+m)* bytes≤140737488355328):
  ∃ v' w',(Builtin.append_ #[t,t] ty #[v,.slice (some a) m c]).run P w = .ok v' w'∧w'.ownsRow 0 e size v' (n+m) (xs++news)∧w.grownBy w' v.ownBlock∧Lt v v' w.heap.size:=by
 obtain⟨v',w',hr,h2,h3,_⟩:=run_append_own (P:=P) w 0 t ty e i z size bytes ht hi hz hsize hby hzs hsz v n xs hown a m c news hl hnews h1 h63 hbytes (Nat.zero_le _);refine⟨v',w',hr,h2,h3,?_⟩;intro g' hg'
 rcases hown.2 with⟨hv,hn⟩| ⟨g,cap,cur,hv,_,hg,hnc,hcm,hcs,htake⟩
 ·have hown2:w.ownsRow w.heap.size e size v n xs:=⟨hown.1,.inl ⟨hv,hn⟩⟩
  obtain⟨v'',w'',hr',h2',_,_⟩:=run_append_own (P:=P) w w.heap.size t ty e i z size bytes ht hi hz hsize hby hzs hsz v n xs hown2 a m c news hl hnews h1 h63 hbytes (Nr' _);rw[hr] at hr';cases hr';exact .inr (h2'.lt g' hg').1
 ·subst hv;subst hsize;subst hby;have hsmall:n+m≤9223372036854775807:=by simp only[maxLen] at h63;omega
  by_cases hroom:n+m≤cap
  ·have hfit:n * i.size+news.length≤cur.size:=by rw[hl,hcs,← Nat.add_mul];exact Nat.mul_le_mul_right _ hroom
   have hr':=run_append_room (P:=P) w t ty e i ht hi g n cap cur hg a m c news hl hnews h1 hroom hfit;rw[hr] at hr';cases hr';exact .inl hg'
  ·have holds:∀ j u,xs[j]?=some u→w.cell? ((⟨g,0,none⟩:Addr).add j)=some u:=hown.cells (g:=g) rfl
   have hr':=run_append_grow (P:=P) w t ty e i z ht hi hz ⟨g,0,none⟩ n cap xs hown.1 holds a m c news hl hnews (by omega) (by omega) (growslice_fits (by omega) hbytes);rw[hr] at hr';cases hr';simp only[Value.ownBlock,Option.some.injEq] at hg';exact .inr (by omega)
theorem Dj{ops:Array Oper}{Di:List Oper}{o:Oper}{a:Act}{Q:Exit→Act→World→Prop}(hgd:o.guard=none)(s x:Operand)(t:TypeId)
  (ho:o.op = .call { callee:=.builtin .append,args:=#[s,x],argTypes:=#[t,t] })
  (e:TypeId) (i:TypeInfo) (z:Value) (size bytes:Nat) (ht:P.underlying t=some (.slice e)) (hi:P.info? e=some i) (hz:i.zero=some z)
  (hsize:i.size=size) (hby:i.bytes=bytes) (hzs:z.cells.size=size) (hsz:0<size)
  (v:Value) (n:Nat) (xs:List Value) (hs:a.eval s=v) (hown:w.ownsRow 0 e size v n xs)
  (ad:Addr) (m c:Nat) (news:List Value) (hx:a.eval x = .slice (some ad) m c) (hl:news.length=m * size) (hnews:∀ j u,news[j]?=some u→w.cell? (ad.add j)=some u) (h1:∀ u ∈ news,u.oneCell'=true)
  (h63:n+m≤maxLen) (hbytes:(n+m)* bytes≤140737488355328)
  (h:∀ v' w',w'.ownsRow 0 e size v' (n+m) (xs++news)→w.grownBy w' v.ownBlock→Lt v v' w.heap.size→wpList P ops Q Di (a.put o.dst v') w'):wpList P ops Q (o::Di) a w:=by
 refine wpList_plain hgd fun K hK=>?_
 obtain⟨v',w',hr,h2,h3,h4⟩:=G9 (P:=P) w t o.type e i z size bytes ht hi hz hsize hby hzs hsz v n xs hown ad m c news hl hnews h1 h63 hbytes;unfold Oper.wp execOp;simp only[ho,resolve,invoke,builtin,Sem.run_bind,Sem.run_pure,Result.andThen_ok,List.map_toArray,List.map_cons,List.map_nil,hs,hx,hr];exact hK _ _ (h v' w' h2 h3 h4)
theorem Gn(t u ty e:TypeId)(i:TypeInfo)(ht:P.underlying t=some (.slice e))(hu:P.underlying u=some .string)(hi:P.info? e=some i)(hz:i.zero=some (.int .u8 0))
  (hsize:i.size=1) (hby:i.bytes=1)
  (v:Value) (n:Nat) (xs:List Value) (hown:w.ownsRow 0 e 1 v n xs) (s:ByteArray) (h63:n+s.size≤maxLen) (hbytes:n+s.size≤140737488355328):
  ∃ v' w',(Builtin.append_ #[t,u] ty #[v,.string s]).run P w = .ok v' w'∧w'.ownsRow 0 e 1 v' (n+s.size) (xs++Lib.strCells s)∧w.grownBy w' v.ownBlock∧Lt v v' w.heap.size:=by
 obtain⟨v',w',hr,h2,h3,_⟩:=Lib.run_append_own_string (P:=P) w 0 t u ty e i ht hu hi hz hsize hby v n xs hown s h63 hbytes (Nat.zero_le _);refine⟨v',w',hr,h2,h3,?_⟩;intro g' hg'
 rcases hown.2 with⟨hv,hn⟩| ⟨g,cap,cur,hv,_,hg,hnc,hcm,hcs,htake⟩
 ·have hown2:w.ownsRow w.heap.size e 1 v n xs:=⟨hown.1,.inl ⟨hv,hn⟩⟩
  obtain⟨v'',w'',hr',h2',_,_⟩:=Lib.run_append_own_string (P:=P) w w.heap.size t u ty e i ht hu hi hz hsize hby v n xs hown2 s h63 hbytes (Nr' _);rw[hr] at hr';cases hr';exact .inr (h2'.lt g' hg').1
 ·subst hv;have hsmall:n+s.size≤9223372036854775807:=by simp only[maxLen] at h63;omega
  by_cases hroom:n+s.size≤cap
  ·have hr':=Lib.run_append_room_string (P:=P) w t u ty e i ht hu hi hsize g n cap cur hg s hroom (by omega);rw[hr] at hr';cases hr';exact .inl hg'
  ·have holds:∀ j u,xs[j]?=some u→w.cell? ((⟨g,0,none⟩:Addr).add j)=some u:=hown.cells (g:=g) rfl
   have hr':=Lib.run_append_grow_string (P:=P) w t u ty e i (.int .u8 0) ht hu hi hz ⟨g,0,none⟩ n cap xs (by rw[hsize];exact hown.1) holds s (by omega) (by omega) (by rw[hby];exact growslice_fits (by omega) (by omega));rw[hr] at hr';cases hr';simp only[Value.ownBlock,Option.some.injEq] at hg';exact .inr (by omega)
theorem Fs{ops:Array Oper}{Di:List Oper}{o:Oper}{a:Act}{Q:Exit→Act→World→Prop}(hgd:o.guard=none)(sl x:Operand)(t u:TypeId)
  (ho:o.op = .call { callee:=.builtin .append,args:=#[sl,x],argTypes:=#[t,u] })
  (e:TypeId) (i:TypeInfo) (ht:P.underlying t=some (.slice e)) (hu:P.underlying u=some .string) (hi:P.info? e=some i) (hz:i.zero=some (.int .u8 0))
  (hsize:i.size=1) (hby:i.bytes=1)
  (v:Value) (n:Nat) (xs:List Value) (hs:a.eval sl=v) (hown:w.ownsRow 0 e 1 v n xs) (s:ByteArray) (hx:a.eval x = .string s)
  (h63:n+s.size≤maxLen) (hbytes:n+s.size≤140737488355328)
  (h:∀ v' w',w'.ownsRow 0 e 1 v' (n+s.size) (xs++Lib.strCells s)→w.grownBy w' v.ownBlock→Lt v v' w.heap.size→wpList P ops Q Di (a.put o.dst v') w'):wpList P ops Q (o::Di) a w:=by
 refine wpList_plain hgd fun K hK=>?_
 obtain⟨v',w',hr,h2,h3,h4⟩:=Gn (P:=P) w t u o.type e i ht hu hi hz hsize hby v n xs hown s h63 hbytes;unfold Oper.wp execOp;simp only[ho,resolve,invoke,builtin,Sem.run_bind,Sem.run_pure,Result.andThen_ok,List.map_toArray,List.map_cons,List.map_nil,hs,hx,hr];exact hK _ _ (h v' w' h2 h3 h4)
end
theorem Hj{e:TypeId}{size n:Nat}{v:Value}{xs:List Value}{w w':World}{L:List Nat}(h:w.ownsRow 0 e size v n xs)(hf:Fr L w w')(hL:∀ g,v.ownBlock=some g→g ∉ L):w'.ownsRow 0 e size v n xs:=by
 refine⟨h.1,?_⟩
 rcases h.2 with hn|⟨g,cap,cur,hv,hb,hg,Di⟩
 ·exact .inl hn
 ·exact .inr ⟨g,cap,cur,hv,hb,hf.keep hg (hL g (by rw[hv];rfl)),Di⟩
theorem Fr.append{L:List Nat}{a w w':World}{v:Value}(h:Fr L a w)(hg:w.grownBy w' v.ownBlock)(hv:∀ g,v.ownBlock=some g→g ∈ L∨a.heap.size≤g):Fr L a w':=h.grown hg hv
theorem Kd(s:ByteArray):Lib.strCells s=Lib.byteCells s.data.toList:=by simp[Lib.strCells,Lib.byteCells]
theorem ofNat_toNat(c:Int)(h0:0≤c)(h1:c≤255):((UInt8.ofNat c.toNat).toNat:Int)=c:=by rw[UInt8.toNat_ofNat'];omega
structure Env (w:World):Prop where
 size:prog.globals.size≤w.heap.size
 tab : Lib.TabIs prog w "internal/strconv.uint64pow10" .u64 Lib.pow10Tab
 rng : ∃ tp p, w.var? prog "strconv.ErrRange" = some #[.iface tp p]
theorem gTab : prog.globalNamed "internal/strconv.uint64pow10" = some 5 := by kernel_rfl
theorem gRng : prog.globalNamed "strconv.ErrRange" = some 2 := by kernel_rfl
theorem nGlob:5<prog.globals.size∧2<prog.globals.size:=by constructor <;> exact of_decide_eq_true (by kernel_rfl)
theorem Env.below{w w':World}(h:Env w)(hb:Below w.heap.size w w'):Env w':=by
 obtain⟨hs,ht,tp,p,hr⟩:=h;exact⟨Nat.le_trans hs hb.size,var?_below hb gTab (Nl' nGlob.1 hs) ht,tp,p,var?_below hb gRng (Nl' nGlob.2 hs) hr⟩
theorem Env.fr{w w':World}(h:Env w)(hb:Fr [] w w'):Env w':=h.below hb.below0
def Eh(ts:List Tok):Nat→Cmd→St→Option (Rs×St)
 | 0,_,_=>none
 | _+1,.retE x,st=>some (.e x,st)
 | _+1,.retP x,st=>some (.p x,st)
 | f+1,.look k,st=>match ts[st.i]? with
  | some t=>Eh ts f (k t st.ok) st
  | none=>none
 | f+1,.ahead k,st=>match Fv ts st.i with
  | some t=>Eh ts f (k t) st
  | none=>none
 | f+1,.adv k,st=>Eh ts f k ⟨st.i+1,st.ok⟩
 | f+1,.fail k,st=>Eh ts f k ⟨st.i,false⟩
 | f+1,.callE nt k,st=>match Eh ts f (body nt) st with
  | some (.e x,st1)=>Eh ts f (k x) st1
  | _=>none
 | f+1,.callP nt k,st=>match Eh ts f (Bp nt) st with
  | some (.p x,st1)=>Eh ts f (k x) st1
  | _=>none
theorem Do{ts:List Tok}:∀ (f:Nat)(c:Cmd)(st:St)(r:Rs)(st':St),Eh ts f c st=some (r,st')→Run ts c st r st'
 | 0,_,_,_,_,h=>by simp[Eh] at h
 | f+1,c,st,r,st',h=>by
  cases c with
  | retE x=>simp[Eh] at h;obtain⟨rfl,rfl⟩:=h;exact .retE
  | retP x=>simp[Eh] at h;obtain⟨rfl,rfl⟩:=h;exact .retP
  | look k =>
   cases ht:ts[st.i]? with
   | none=>simp[Eh,ht] at h
   | some t=>simp[Eh,ht] at h;exact .look ht (Do f _ _ _ _ h)
  | ahead k =>
   cases ht:Fv ts st.i with
   | none=>simp[Eh,ht] at h
   | some t=>simp[Eh,ht] at h;exact .ahead ht (Do f _ _ _ _ h)
  | adv k=>simp[Eh] at h;exact .adv (Do f _ _ _ _ h)
  | fail k=>simp[Eh] at h;exact .fail (Do f _ _ _ _ h)
  | callE nt k =>
   cases hb:Eh ts f (body nt) st with
   | none=>simp[Eh,hb] at h
   | some q =>
    obtain⟨q,st1⟩:=q
    cases q with
    | e x=>simp[Eh,hb] at h;exact .callE (Do f _ _ _ _ hb) (Do f _ _ _ _ h)
    | p x=>simp[Eh,hb] at h
  | callP nt k =>
   cases hb:Eh ts f (Bp nt) st with
   | none=>simp[Eh,hb] at h
   | some q =>
    obtain⟨q,st1⟩:=q
    cases q with
    | e x=>simp[Eh,hb] at h
    | p x=>simp[Eh,hb] at h;exact .callP (Do f _ _ _ _ hb) (Do f _ _ _ _ h)
def brK(a:Int)(n:Tok)(t:Tok)(ok:Bool):Cmd:=if (t.k==1&&(n.k==7&&n.text==[61]))=true then (if ok=true then .callE (.recL a [] []) .retE else Bk [125] (.retE (.mk 12 a [] 0 [] [] [] [])))else
   .callE .seq fun x=>Bk [119,105,116,104] (Er fun nm=>Bk [61] (.callE .seq fun y=>Bk [125] (.retE (.mk 13 a nm 0 [] [] [x,y] []))))
theorem isB_ok'{t:Tok}{ok:Bool}{l:List LB}(h:isB t ok l=true):ok=true∧t.k≠0:=by
 unfold isB It at h;simp only[Ba',Bool.or_eq_true,beq_iff_eq] at h;exact⟨h.1.1,by omega⟩
theorem Jd{t:Tok}{ok:Bool}(h:Bu t ok=true):ok=true∧t.k≠0:=by
 unfold Bu at h;simp only[Bool.or_eq_true,Ba',beq_iff_eq] at h;rcases h with h|h
 ·exact⟨h.1,by omega⟩
 ·exact isB_ok' h
def Kn(ts:List Tok)(st:St)(kn:Option (Tok×Bool)):Prop:=∀ p,kn=some p→ts[st.i]?=some p.1∧st.ok=p.2
theorem Kn.see{ts:List Tok}{st:St}{t:Tok}(h:ts[st.i]?=some t):Kn ts st (some (t,st.ok)):=fun p hp=>by cases hp;exact⟨h,rfl⟩
theorem Mb{t:Tok}(h:t.k=1)(ok:Bool)(l:List LB):isB t ok l=false:=by
 unfold isB It;rw[h];cases ok <;> rfl
def Eq(ts:List Tok)(i:Nat)(c:Cmd):Prop:=∀ r st',Run ts c ⟨i,true⟩ r st'→i<st'.i
theorem Eq.callE{ts:List Tok}{i:Nat}{nt:NT}{k:Ah→Cmd}(h:Eq ts i (body nt)):Eq ts i (.callE nt k):=by
 intro r st' hr
 cases hr with
 | callE h1 hk=>exact Nl' (h _ _ h1) hk.grows.1
theorem Eq.look{ts:List Tok}{i:Nat}{t:Tok}(ht:ts[i]?=some t){k:Tok→Bool→Cmd}(h:Eq ts i (k t true)):Eq ts i (.look k):=by
 intro r st' hr
 cases hr with
 | look h1 hk=>rw[ht] at h1;cases h1;exact h _ _ hk
theorem Eq.adv{ts:List Tok}{i:Nat}{k:Cmd}:Eq ts i (.adv k):=by
 intro r st' hr
 cases hr with
 | adv hk=>exact hk.grows.1
theorem Eq.may{ts:List Tok}{i:Nat}{t:Tok}(ht:ts[i]?=some t)(hk:t.k=1){s:LB}{k:Bool→Cmd}(h:Eq ts i (k false)):Eq ts i (C0 s k):=
 .look ht (by rw[Mb hk,if_neg (by decide)];exact h)
theorem Eq.is{ts:List Tok}{i:Nat}{t:Tok}(ht:ts[i]?=some t)(hk:t.k=1){l:List LB}{k:Bool→Cmd}(h:Eq ts i (k false)):Eq ts i (isC l k):=
 .look ht (by rw[Mb hk];exact h)
theorem Ll{ts:List Tok}{st:St}{u:Tok}{r:Rs}{st':St}(hu:ts[st.i]?=some u)(hb:Bu u st.ok=true)(h:Run ts (body .post) st r st'):st.i<st'.i:=by
 obtain⟨i,ok⟩:=st;have hok:ok=true:=(Jd hb).1;subst hok;have hu:ts[i]?=some u:=hu;have hb:Bu u true=true:=hb;refine(show Eq ts i (body .post)from .look hu (.look hu ?_)) _ _ h;split
 ·exact .adv
 ·rename_i h33
  show Eq ts i (.callE .atom fun a => .callE (.postL a) .retE);refine .callE (.look hu ?_);have h33:isB u true [[33]]=false:=by simpa using h33
  rw[hb,h33,if_pos (by rfl)];exact .adv
def E1(ts:List Tok):Prop:=∀ (j:Nat)(t:Tok),ts[j]?=some t→t.k≠0→j+1<ts.length
theorem H9{ts:List Tok}(h:E1 ts){j:Nat}{t:Tok}(ht:ts[j]?=some t)(hk:t.k≠0):Fv ts j=ts[j+1]?:=by
 unfold Fv;have:=h j t ht hk;rw[Nat.min_eq_left (by omega)]
theorem brK_eq{a:Int}{n n' t:Tok}(h:t.k≠1)(ok:Bool):brK a n t ok=brK a n' t ok:=by
 unfold brK;have:(t.k==1)=false:=bN.2 h;rw[this];rfl
end Go.Proofs.YtpjkfeehgookkaaGreatDoor
