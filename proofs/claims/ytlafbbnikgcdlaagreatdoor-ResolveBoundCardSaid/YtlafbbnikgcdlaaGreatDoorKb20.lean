/- A part of the proof: Td, Te, Tf, Th, Ti, Tj, Tt, Tu, Tv, Tn1, Tq, Ts1. -/
import Derived.Defers
import Derived.Test.YtlafbbnikgcdlaaGreatDoorKb18
namespace Go.Proofs.YtlafbbnikgcdlaaGreatDoor
open Go.RowKit
open _root_.Go.Proofs.Tryz
set_option linter.all false
set_option maxHeartbeats 16000000
set_option maxRecDepth 100000
variable{p:Prop}
open List renaming length_cons→Lc',length_append→La',getElem?_eq_getElem→Lg',cons_append→Lp'
open Nat renaming lt_of_lt_of_le→Nl',le_refl→Nr'
section
attribute [local go_sem ↓] Go.wp_at_zero Go.wp_at_succ
def evE:Nat→List Int→List MapEntry
 | _,[]=>[]
 | i,v::l=>⟨vI v,.bool true,i⟩::evE (i+1) l
theorem evE_app(v:Int):∀ (l:List Int)(i:Nat),evE i (l++[v])=evE i l++[⟨vI v,.bool true,i+l.length⟩]
 | [],i=>by simp[evE]
 | u::l,i=>by
  simp only[Lp',evE,Lc'];rw[evE_app v l (i+1),show i+1+l.length=i+(l.length+1) by omega]
theorem U7{v:Int}:∀ {l:List Int}(i j:Nat),v ∉ l→Instr.findNow (.int .i64) (vI v) (evE i l) j=some none
 | [],i,j,_=>rfl
 | u::l,i,j,h=>by
  have h1:¬ v=u:=fun e=>h (by simp[e])
  have h2:v ∉ l:=fun e=>h (by simp[e])
  rw[evE,Instr.findNow];have hs:Instr.sameNow (.int .i64) (vI v) (vI u)=some false:=by simp[Instr.sameNow,h1]
  simp only[hs];exact U7 (i+1) (j+1) h2
abbrev TMapB:TypeId:=65
def Xn(x:World)(E:Nat)(o:Obj):World:={ x with heap:=x.heap.setIfInBounds E o }
theorem mapW_fr(x:World)(E:Nat)(o:Obj):Fr [E] x (Xn x E o):=⟨rfl,rfl,rfl,by simp[Xn],fun k hk hn=>by
 have:¬ E=k:=fun e=>hn (by simp[e])
 simp[Xn,Array.getElem?_setIfInBounds,this]⟩
theorem mapW_at{x:World}{E:Nat}(o:Obj)(h:E<x.heap.size):(Xn x E o).heap[E]?=some o:=by simp[Xn,h]
theorem ev_look{x:World}{E:Nat}{l:List Int}{v:Int}(hb:x.heap[E]?=some (.map (evE 0 l).toArray l.length))(hv:v ∉ l):(Instr.lookup TMapB (.map (some E)) (vI v) false).run prog x = .ok (.bool false) x:=by
 have hf:=U7 0 0 hv;have hz:(zeroValue 4).run prog x = .ok (.bool false) x:=by kernel_rfl
 simp[Instr.lookup,run_underlying underlying65,run_underlying underlying3,MapKept.run_getObj_map hb,Ey underlying3 _ 9999,Instr.findKey,hf,hz,Result.andThen]
theorem ev_put{x:World}{E:Nat}{l:List Int}{v:Int}(hb:x.heap[E]?=some (.map (evE 0 l).toArray l.length))(hv:v ∉ l):(Instr.mapUpdate TMapB (.map (some E)) (vI v) (.bool true)).run prog x = .ok () (Xn x E (.map (evE 0 (l++[v])).toArray (l.length+1))):=by
 have hf:=U7 0 0 hv;have ha:=evE_app v l 0;rw[Nat.zero_add] at ha;simp[Instr.mapUpdate,run_underlying underlying65,run_underlying underlying3,MapKept.run_getObj_map hb,MapKept.run_setObj_map _ hb,Ey underlying3 _ 9999,Instr.findKey,hf,Result.andThen,ha];rfl
structure Fh (w0:World)(Q E MT MP:Nat)(C:Ck)(A:Option Addr)(c:Nat)(w:World):Prop where
 blk:w.heap[Q]?=some (.cells #[vI C.parts,.map (some E),.slice A C.now.length c,.map (some MT),.map (some MP)] 70)
 ever:∃ l:List Int,w.heap[E]?=some (.map (evE 0 l).toArray l.length)∧∀ v,v ∈ l↔v ∈ C.ever
 row:w.ownsRow 0 3 1 (.slice A C.now.length c) C.now.length (C.now.map (fun v=>Value.int .i64 v))
 mt:w.heap[MT]?=some (.map (shE 19) 19)
 mp:w.heap[MP]?=some (.map (paE 9) 9)
 lo:w0.heap.size≤Q∧w0.heap.size≤E∧w0.heap.size≤MT∧w0.heap.size≤MP
 ne:Q≠E∧Q≠MT∧Q≠MP∧E≠MT∧E≠MP
 own:∀ a,A=some a→w0.heap.size≤a.block∧a.block≠Q∧a.block≠E∧a.block≠MT∧a.block≠MP
 nn:0≤C.parts
 fr:Fr [] w0 w
def ckL(Q E:Nat)(A:Option Addr):List Nat:=Q::E::(A.map (·.block)).toList
theorem Hy{Q E k:Nat}{A:Option Addr}:k ∈ ckL Q E A↔k=Q∨k=E∨∃ a,A=some a∧k=a.block:=by
 cases A <;> simp[ckL]
def Gi(w0:World)(Q E MT MP:Nat)(A:Option Addr)(w:World)(C':Ck)(A':Option Addr)(c':Nat)(w':World):Prop :=
 Fh w0 Q E MT MP C' A' c' w'∧Fr (ckL Q E A) w w'∧∀ a,A'=some a→A=some a∨w.heap.size≤a.block
section
variable {w0 w w':World} {Q E MT MP:Nat} {C C':Ck} {A A':Option Addr} {c c':Nat}
theorem Fh.frL{L:List Nat}(h:Fh w0 Q E MT MP C A c w)(hf:Fr L w w')(h1:Q ∉ L∧E ∉ L∧MT ∉ L∧MP ∉ L)(hA:∀ a,A=some a→a.block ∉ L)(hL:∀ x ∈ L,w0.heap.size≤x):Fh w0 Q E MT MP C A c w':=by
 obtain⟨l,he,hl⟩:=h.ever;exact⟨hf.keep h.blk h1.1,⟨l,hf.keep he h1.2.1,hl⟩,Dv h.row hf (fun g e=>by cases A with|none=>cases e|some a=>cases e;exact hA a rfl),hf.keep h.mt h1.2.2.1,hf.keep h.mp h1.2.2.2,h.lo,h.ne,h.own,h.nn,h.fr.step hf (fun x hx => .inr (hL x hx))⟩
theorem Fh.fr0(h:Fh w0 Q E MT MP C A c w)(hf:Fr [] w w'):Fh w0 Q E MT MP C A c w':=h.frL hf ⟨(fun x=>by cases x),(fun x=>by cases x),(fun x=>by cases x),(fun x=>by cases x)⟩ (fun _ _ x=>by cases x) (fun _ x=>by cases x)
theorem Fh.lt(h:Fh w0 Q E MT MP C A c w):Q<w.heap.size∧E<w.heap.size∧MT<w.heap.size∧MP<w.heap.size:=by
 obtain⟨l,he,hl⟩:=h.ever;exact⟨Aa h.blk,Aa he,Aa h.mt,Aa h.mp⟩
theorem Fh.own_lt(h:Fh w0 Q E MT MP C A c w):∀ a,A=some a→a.block<w.heap.size:=fun a e=>by
 exact qq216
theorem Fh.addr(h:Fh w0 Q E MT MP C A c w):∀ a,A=some a→a=⟨a.block,0,none⟩:=fun a e=>by
 exact qq221
theorem Fh.cells(h:Fh w0 Q E MT MP C A c w):w.cell? ⟨Q,0,none⟩=some (vI C.parts)∧w.cell? ⟨Q,1,none⟩=some (.map (some E))∧w.cell? ⟨Q,2,none⟩=some (.slice A C.now.length c)∧w.cell? ⟨Q,3,none⟩=some (.map (some MT))∧w.cell? ⟨Q,4,none⟩=some (.map (some MP))∧
  w.frozen? ⟨Q,0,none⟩=false∧w.frozen? ⟨Q,2,none⟩=false:=by
 have h:=h.blk;refine⟨?_,?_,?_,?_,?_,Ap h _,Ap h _⟩<;> rw[Ab h] <;> rfl
theorem Fh.cap(h:Fh w0 Q E MT MP C A c w):C.now.length≤c:=by
 exact qq303
theorem Gi.refl(h:Fh w0 Q E MT MP C A c w):Gi w0 Q E MT MP A w C A c w:=⟨h,Fr.refl _ _,fun a e => .inl e⟩
theorem Gi.trans{A1 A2 A3:Option Addr}{C2 C3:Ck}{c2 c3:Nat}{w1 w2 w3:World}(h:Gi w0 Q E MT MP A1 w1 C2 A2 c2 w2)(k:Gi w0 Q E MT MP A2 w2 C3 A3 c3 w3):Gi w0 Q E MT MP A1 w1 C3 A3 c3 w3:=by
 obtain⟨h1,h2,h3⟩:=h;obtain⟨k1,k2,k3⟩:=k;refine⟨k1,h2.step k2 (fun x hx=>?_),fun a e=>?_⟩
 ·rcases Hy.1 hx with rfl|rfl|⟨a,e,rfl⟩
  ·exact .inl (Hy.2 (.inl rfl))
  ·exact .inl (Hy.2 (.inr (.inl rfl)))
  ·rcases h3 a e with h|h
   ·exact .inl (Hy.2 (.inr (.inr ⟨a,h,rfl⟩)))
   ·exact .inr h
 ·rcases k3 a e with h|h
  ·exact h3 a h
  ·have:=h2.size;exact .inr oM
theorem Gi.fr0{w'':World}(h:Gi w0 Q E MT MP A w C' A' c' w')(hf:Fr [] w' w''):Gi w0 Q E MT MP A w C' A' c' w'':=⟨h.1.fr0 hf,h.2.1.trans0 hf,h.2.2⟩
theorem Gi.before{v:World}(hf:Fr [] v w)(h:Gi w0 Q E MT MP A w C' A' c' w'):Gi w0 Q E MT MP A v C' A' c' w':=⟨h.1,(hf.mono (fun x hx=>by cases hx)).trans h.2.1,fun a e=>(h.2.2 a e).imp id (fun h=>by have:=hf.size;omega)⟩
theorem Fh.count(h:Fh w0 Q E MT MP C A c w)(p:Int)(hp:0≤p):Gi w0 Q E MT MP A w ⟨p,C.ever,C.now⟩ A c (w.setCell ⟨Q,0,none⟩ (vI p)):=by
 have hf:Fr [Q] w (w.setCell ⟨Q,0,none⟩ (vI p)):=(Fr.refl [Q] w).setCell (p:=⟨Q,0,none⟩) (.inl sM) _;obtain⟨l,he,hl⟩:=h.ever;obtain⟨n1,n2,n3,n4,n5⟩:=h.ne;refine⟨⟨?_,⟨l,hf.keep he (by simpa using fun e=>n1 e.symm),hl⟩,Dv h.row hf (fun g e=>?_),hf.keep h.mt (by simpa using fun e=>n2 e.symm),hf.keep h.mp (by simpa using fun e=>n3 e.symm),h.lo,h.ne,h.own,hp,h.fr.step hf (fun x hx => .inr (by simp at hx;subst hx;exact h.lo.1))⟩,hf.mono (fun x hx => .inl (by simp at hx;subst hx;exact Hy.2 (.inl rfl))),fun a e => .inl e⟩
 ·have:=h.blk;exact qq189
 ·cases A with
  | none=>cases e
  | some b=>cases e;simpa using(h.own b rfl).2.1
theorem Fh.rowed{v:World}(h:Fh w0 Q E MT MP C A c v)(l:List Int)(hf:Fr (ckL Q E A) v w)(hb:w.heap[Q]?=v.heap[Q]?)(he:w.heap[E]?=v.heap[E]?)(hrow:w.ownsRow 0 3 1 (.slice A' l.length c') l.length (l.map (fun v=>Value.int .i64 v)))(hown:∀ a,A'=some a→A=some a∨v.heap.size≤a.block):
  Gi w0 Q E MT MP A v ⟨C.parts,C.ever,l⟩ A' c' (w.setCell ⟨Q,2,none⟩ (.slice A' l.length c')):=by
 have hlt:=h.lt;have hle:=h.fr.size
 have hown2:∀ a,A'=some a→w0.heap.size≤a.block∧a.block≠Q∧a.block≠E∧a.block≠MT∧a.block≠MP:=fun a e=>by
  rcases hown a e with h1|h1
  ·exact h.own a h1
  ·omega
 obtain⟨n1,n2,n3,n4,n5⟩:=h.ne;have hf1:Fr [Q] w (w.setCell ⟨Q,2,none⟩ (.slice A' l.length c')):=(Fr.refl [Q] w).setCell (p:=⟨Q,2,none⟩) (.inl sM) _;have hf2:Fr (ckL Q E A) v (w.setCell ⟨Q,2,none⟩ (.slice A' l.length c')):=hf.step hf1 (fun x hx => .inl (by simp at hx;subst hx;exact Hy.2 (.inl rfl)));obtain⟨m,hm,hml⟩:=h.ever
 have hno:∀ k,k≠Q→k≠E→(∀ a,A=some a→a.block≠k)→k ∉ ckL Q E A:=fun k h1 h2 h3 hx=>by
  rcases Hy.1 hx with e|e|⟨a,e,e2⟩
  ·exact h1 e
  ·exact h2 e
  ·exact h3 a e e2.symm
 refine⟨⟨?_,⟨m,hf1.keep (he.trans hm) (by simpa using fun e=>n1 e.symm),hml⟩,Dv hrow hf1 (fun g e=>?_),hf2.keep h.mt (hno _ (fun e=>n2 e.symm) (fun e=>n4 e.symm) (fun a e=>(h.own a e).2.2.2.1)),hf2.keep h.mp (hno _ (fun e=>n3 e.symm) (fun e=>n5 e.symm) (fun a e=>(h.own a e).2.2.2.2)),h.lo,h.ne,hown2,h.nn,h.fr.step hf2 (fun x hx => .inr ?_)⟩,hf2,hown⟩
 ·have:=hb.trans h.blk;exact qq189
 ·cases A' with
  | none=>cases e
  | some b=>cases e;simpa using(hown2 b rfl).2.1
 ·rcases Hy.1 hx with rfl|rfl|⟨a,e,rfl⟩
  ·exact h.lo.1
  ·exact h.lo.2.1
  ·exact(h.own a e).1
theorem Fh.cut(h:Fh w0 Q E MT MP C A c w)(m:Nat)(hm:m≤C.now.length):Gi w0 Q E MT MP A w ⟨C.parts,C.ever,C.now.take m⟩ A c (w.setCell ⟨Q,2,none⟩ (.slice A m c)):=by
 have hl:(C.now.take m).length=m:=by rw[List.length_take];omega
 have hr:=P0 h.row hm;rw[Nat.mul_one,← List.map_take] at hr;have:=h.rowed (C.now.take m) (A':=A) (c':=c) (Fr.refl _ w) rfl rfl (by rw[hl];exact hr) (fun a e => .inl e);rw[hl] at this;exact this
theorem Fh.entered(h:Fh w0 Q E MT MP C A c w){l:List Int}(hl:∀ v,v ∈ l↔v ∈ C.ever)(v:Int):Gi w0 Q E MT MP A w ⟨C.parts,v::C.ever,C.now⟩ A c (Xn w E (.map (evE 0 (l++[v])).toArray (l.length+1))):=by
 have hf:=mapW_fr w E (.map (evE 0 (l++[v])).toArray (l.length+1));obtain⟨n1,n2,n3,n4,n5⟩:=h.ne;refine⟨⟨hf.keep h.blk (by simpa using n1),⟨l++[v],?_,fun u=>?_⟩,Dv h.row hf (fun g e=>?_),hf.keep h.mt (by simpa using fun e=>n4 e.symm),hf.keep h.mp (by simpa using fun e=>n5 e.symm),h.lo,h.ne,h.own,h.nn,h.fr.step hf (fun x hx => .inr (by simp at hx;subst hx;exact h.lo.2.1))⟩,hf.mono (fun x hx => .inl (by simp at hx;subst hx;exact Hy.2 (.inr (.inl rfl)))),fun a e => .inl e⟩
 ·rw[mapW_at _ h.lt.2.1,La'];rfl
 ·rw[List.mem_append,hl u,List.mem_singleton,List.mem_cons];exact Or.comm
 ·cases A with
  | none=>cases e
  | some b=>cases e;simpa using(h.own b rfl).2.2.1
end
theorem Xy{w0 w:World}{Q E MT MP:Nat}{C:Ck}{A:Option Addr}{c:Nat}(h:Fh w0 Q E MT MP C A c w)(d:Nat)(hp:E9 d C):
  Calls prog 45 #[.pointer (some ⟨Q,0,none⟩),vI d] w fun e w'=>e = .returned (.bool true)∧Gi w0 Q E MT MP A w C.one A c w':=by
 have H:=Hz (h.count (C.parts+1) (by have:=h.nn;omega));obtain⟨l0,l1,l2,l3,l4,z0,z2⟩:=h.cells;obtain⟨h1,h2⟩:=hp;have h0:=h.nn;have q1:C.parts+1≤16384:=h1;have q2:(d:Int)≤600:=by omega
 clear h h1 h2;go_enter func45,ntmps45;go_wp2_with fail;go_ret;exact⟨rfl,H.out⟩
theorem infoInt8:(prog.info? 3).map (fun i=>(i.zero,i.size,i.bytes))=some (some (vI 0),1,8):=by kernel_rfl
theorem mbind_any{w0 w:World}{Q E MT MP:Nat}{C:Ck}{A:Option Addr}{c:Nat}(h:Fh w0 Q E MT MP C A c w)(v:Int)(hb:Tk v C)(hl:C.now.length≤1099511627776):
  Calls prog 53 #[.pointer (some ⟨Q,0,none⟩),vI v] w fun e w'=>∃ A' c',e = .returned (.bool true)∧Gi w0 Q E MT MP A w (C.bind v) A' c' w':=by
 obtain⟨l,he,hll⟩:=h.ever;have hvl:v ∉ l:=fun hv=>hb.2.2 ((hll v).1 hv)
 have hlk:=ev_look he hvl;have hpt:=ev_put he hvl;have H1:=Hz (h.entered hll v);obtain⟨l0,l1,l2,l3,l4,z0,z2⟩:=h.cells;have q1:¬ v<0:=by have:=hb.1;omega
 have q2:¬ (1048576:Int)<v:=by have:=hb.2.1;omega
 obtain⟨m0,m1,m2,m3,m4,y0,y2⟩:=H1.out.1.cells;obtain⟨i0,hi,hz0,hz1,hz2⟩:=info_parts infoInt8;have HI:=Hz hi;have HZ0:=Hz hz0;have HZ1:=Hz hz1;have HZ2:=Hz hz2;have HLt:=H1.out.1.lt;obtain⟨ql,el,_,_⟩:=HLt;have HQO:Hid (∀ a,A=some a→a.block≠Q∧a.block≠E):=Hz (fun a e=>⟨(h.own a e).2.1,(h.own a e).2.2.1⟩);have HL:=Hz hl;clear hi hz0 hz1 hz2 h hll he hvl hb hl;go_enter func53,ntmps53
 generalize Xn w E (.map (evE 0 (l++[v])).toArray (l.length+1))=x at *
 have hown:=H1.out.1.row;dsimp only at hown;have HOW:=Hz hown;clear hown
 have hPB:some Q≠(Value.slice A C.now.length c).ownBlock:=fun e=>by
  cases A with
  | none=>cases e
  | some a=>cases e;exact(HQO.out a rfl).1 rfl
 have hEB:some E≠(Value.slice A C.now.length c).ownBlock:=fun e=>by
  cases A with
  | none=>cases e
  | some a=>cases e;exact(HQO.out a rfl).2 rfl
 have HPB:=Hz hPB;have HEB:=Hz hEB;clear hPB hEB;have HBLK:=Hz H1.out.1.blk;go_wp2_with (at_builtin;refine D2 _ rfl _ _ 68 rfl 3 i0 _ 1 8 underlying68 HI.out HZ0.out HZ1.out HZ2.out rfl dC (.slice A C.now.length c) C.now.length (C.now.map (fun v=>Value.int .i64 v)) rfl (Dv HOW.out ((Fr.refl [] x).alloc _) (fun _ _ h=>by cases h)) ⟨x.heap.size,0,none⟩ 1 1 [vI v] rfl rfl (World.news_of_block (Ag x _)) (by simp[Value.oneCell']) (by simp only[maxLen];have:=HL.out;omega) (by have:=HL.out;omega) ?_;intro v9 w9 hown9 hgrow9 hfp9;obtain⟨g9,cp9,hv9⟩:=Cd hown9;subst hv9;have GB:=(hgrow9.block Q (Aa (Ae HBLK.out _)) HPB.out).trans (Ae HBLK.out _);have r0:=Ab GB 0;have r1:=Ab GB 1;have r2:=Ab GB 2;have s2:=Ap GB 2);have hfA:=(Fr.refl [] x).alloc (.cells #[vI v] 3)
 have hf9:Fr (ckL Q E A) x w9:=by
  refine Fr.grown (hfA.mono (fun y hy=>by cases hy)) hgrow9 (fun k e=>?_)
  cases A with
  | none=>cases e
  | some a=>cases e;exact .inl (Hy.2 (.inr (.inr ⟨a,rfl,rfl⟩)))
 have hE9:w9.heap[E]?=x.heap[E]?:=(hgrow9.block E (by rw[World.size_alloc];omega) HEB.out).trans (Below.heap_alloc _ _ _ el)
 have hfin:=H1.out.1.rowed (C.now++[v]) (A':=some ⟨g9,0,none⟩) (c':=cp9) hf9 (GB.trans HBLK.out.symm) hE9 (by rw[La',List.map_append];exact hown9) (fun a e=>by
  cases e
  rcases hfp9 g9 rfl with h|h
  ·cases A with
   | none=>cases h
   | some a =>
    have e1:=H1.out.1.addr a rfl
    simp[Value.ownBlock] at h
    rw[h] at e1
    exact .inl (by rw[e1])
  ·right;simp at h ⊢;omega)
 rw[La',List.length_singleton] at hfin;have HFIN:Hid (Gi w0 Q E MT MP A w (C.bind v) (some ⟨g9,0,none⟩) cp9 (w9.setCell ⟨Q,2,none⟩ (.slice (some ⟨g9,0,none⟩) (C.now.length+1) cp9))):=Hz (H1.out.trans hfin);clear hfin hf9 hE9 hown9 hgrow9 hfp9 hfA;go_ret;exact⟨sM,_,_,HFIN.out⟩
mutual
def zP:Bp→Nat
 | .mk _ _ _ _ _ args=>1+zPs args
def zPs:List Bp→Nat
 | []=>0
 | x::l=>zP x+zPs l
end
def Eh(C:Ck):Prop:=(C.now.length:Int)≤C.parts
theorem Eh.one{C:Ck}(h:Eh C):Eh C.one:=by unfold Eh Ck.one at *;dsimp only;omega
theorem Eh.bind1{C:Ck}(h:Eh C)(v:Int):Eh (C.one.bind v):=by unfold Eh Ck.one Ck.bind at *;simp;omega
mutual
theorem Ud:∀ {x:Bp}{d:Nat}{C C':Ck},OkP x d C C'→Eh C→C.parts+1≤C'.parts∧C'.parts≤16384∧Eh C'
 | _,_,C,_,.any hk hp,h=>⟨Int.le_refl _,hp.1,h.one⟩
 | _,_,C,_,.var hp hb,h=>⟨Int.le_refl _,hp.1,h.bind1 _⟩
 | _,_,C,_,.int hp _,h=>⟨Int.le_refl _,hp.1,h.one⟩
 | _,_,C,_,.str hp _,h=>⟨Int.le_refl _,hp.1,h.one⟩
 | _,_,C,_,.bool hp _,h=>⟨Int.le_refl _,hp.1,h.one⟩
 | _,_,C,_,.nam _ hp _ ha,h=>by
  exact qq305
 | _,_,C,_,.recd _ _ hp ha,h=>by
  exact qq305
theorem N6:∀ {l:List Bp}{d:Nat}{C C':Ck},OkPs l d C C'→Eh C→C.parts≤16384→C.parts+l.length≤C'.parts∧C'.parts≤16384∧Eh C'
 | _,_,C,_,.nil,h,hp=>⟨sM,hp,h⟩
 | _,_,C,_,.cons hx ht,h,hp=>by
  obtain⟨h1,h2,h3⟩:=Ud hx h;obtain⟨k1,k2,k3⟩:=N6 ht h3 h2;exact⟨by simp only[Lc'];omega,k2,k3⟩
end
theorem Cs.told{w0 wr:World}{ok:Nat→Prop}{x:Bp}{cs:List Value}(h:Cs w0 ok x cs){g o:Nat}(hc:∀ (j:Nat)(v:Value),cs[j]?=some v→wr.cell? ⟨g,o+j,none⟩=some v):
  ∃ k v n s ls args A4 c4 A5 c5,x = .mk k v n s ls args∧Cs w0 ok (.mk k v n s ls args) [vI k,vI v,vI n,vS s,.slice A4 ls.length c4,.slice A5 args.length c5]∧wr.cell? ⟨g,o,none⟩=some (vI k)∧wr.cell? ⟨g,o+1,none⟩=some (vI v)∧wr.cell? ⟨g,o+2,none⟩=some (vI n)∧wr.cell? ⟨g,o+3,none⟩=some (vS s)∧wr.cell? ⟨g,o+4,none⟩=some (.slice A4 ls.length c4)∧wr.cell? ⟨g,o+5,none⟩=some (.slice A5 args.length c5):=by
 cases h with
 | @mk k v n s ls args v4 v5 d4 d5 h4 e4 h5 e5 =>
  obtain⟨A4,cc4,r4⟩:=h4.form;obtain⟨A5,cc5,r5⟩:=h5.form;subst r4 r5;exact⟨_,_,_,_,_,_,_,_,_,_,rfl,.mk d4 d5 h4 e4 h5 e5,hc 0 _ rfl,hc 1 _ rfl,hc 2 _ rfl,hc 3 _ rfl,hc 4 _ rfl,hc 5 _ rfl⟩
theorem Gi.out{w0 w w':World}{Q E MT MP:Nat}{C':Ck}{A A':Option Addr}{c':Nat}(h:Gi w0 Q E MT MP A w C' A' c' w'){k:Nat}(h1:k≠Q)(h2:k≠E)(h3:∀ a,A=some a→a.block≠k)(hk:k<w.heap.size):w'.heap[k]?=w.heap[k]?∧∀ a,A'=some a→a.block≠k :=
 ⟨h.2.1.block k hk (fun hx=>by
  rcases Hy.1 hx with e|e|⟨a,e,e2⟩
  ·exact h1 e
  ·exact h2 e
  ·exact h3 a e e2.symm),fun a e=>by
  rcases h.2.2 a e with h4|h4
  ·exact h3 a h4
  ·omega⟩
def Ki(Q E:Nat)(A:Option Addr)(k:Nat)(w:World):Prop:=k≠Q∧k≠E∧(∀ a,A=some a→a.block≠k)∧k<w.heap.size
theorem Ki.step{w0 w w':World}{Q E MT MP:Nat}{C':Ck}{A A':Option Addr}{c' k:Nat}(h:Ki Q E A k w)(s:Gi w0 Q E MT MP A w C' A' c' w'):w'.heap[k]?=w.heap[k]?∧Ki Q E A' k w':=by
 obtain⟨h1,h2,h3,h4⟩:=h;obtain⟨e1,e2⟩:=s.out h1 h2 h3 h4;exact⟨e1,h1,h2,e2,Nl' h4 s.2.1.size⟩
theorem Ki.cell{w0 w w':World}{Q E MT MP:Nat}{C':Ck}{A A':Option Addr}{c' k:Nat}(h:Ki Q E A k w)(s:Gi w0 Q E MT MP A w C' A' c' w'){v:Value}(hc:w.cell? ⟨k,0,none⟩=some v):w'.cell? ⟨k,0,none⟩=some v :=
 (World.cell?_of_block (w:=w) (w':=w') (a:=⟨k,0,none⟩) (h.step s).1).trans hc
theorem Rx{w0 w:World}{Q E MT MP:Nat}{C:Ck}{A:Option Addr}{c:Nat}(h:Fh w0 Q E MT MP C A c w)(B0 B9 m:Nat)(hb0:w.cell? ⟨B0,0,none⟩=some (.pointer (some ⟨Q,0,none⟩)))(hb9:w.cell? ⟨B9,0,none⟩=some (vI m))(hm:m≤C.now.length)(h0:B0≠Q)(h9:B9≠Q)(u:FrameMode):
  CallsD prog 49 #[.pointer (some ⟨B0,0,none⟩),.pointer (some ⟨B9,0,none⟩)] u w fun e u' w'=>u'=u∧e = .returned (.tuple #[])∧Gi w0 Q E MT MP A w ⟨C.parts,C.ever,C.now.take m⟩ A c w':=by
 have HC:=Hz (h.cut m hm);obtain⟨l0,l1,l2,l3,l4,z0,z2⟩:=h.cells;have hcap:=h.cap;have q1:(0:Int)≤(m:Int):=by omega
 have q2:(m:Int)≤(c:Int):=by omega
 have q3:m≤c:=by omega
 have n0:¬ Q=B0:=fun e=>h0 e.symm
 have n9:¬ Q=B9:=fun e=>h9 e.symm
 clear h hm hcap
 go_enter_d func49,ntmps49
 go_wp2_with fail;refine Db 9 (fun w'=>w'.cell? ⟨B0,0,none⟩=some (.pointer (some ⟨Q,0,none⟩))∧w'.cell? ⟨B9,0,none⟩=some (vI m)∧w'.cell? ⟨Q,2,none⟩=some (.slice A C.now.length c)) kR kR rfl ⟨hb0,hb9,l2⟩ (fun K hK hHeld=>?hsd);dsimp only[List.take];refine Af (i:=0) (v:=?vd_0) rfl kR kR kR (fun _ _ _ h=>h) (Or.inl ⟨by rfl,?yd_0⟩) hHeld ?rd_0
 case yd_0 =>
  exact qq54
 (try simp only[Act.put,sX])
 refine Af (i:=1) (v:=?vd_1) rfl kR kR kR (fun _ _ _ h=>h) (Or.inl ⟨by rfl,?yd_1⟩) hHeld ?rd_1
 case yd_1 =>
  exact qq54
 (try simp only[Act.put,sX])
 refine Af (i:=2) (v:=?vd_2) rfl kR kR kR (fun _ _ _ h=>h) (Or.inl ⟨by rfl,?yd_2⟩) hHeld ?rd_2
 case yd_2 =>
  exact qq54
 (try simp only[Act.put,sX])
 refine Af (i:=3) (v:=?vd_3) rfl kR kR kR (fun _ _ _ h=>h) (Or.inl ⟨by rfl,?yd_3⟩) hHeld ?rd_3
 case yd_3 =>
  exact qq54
 (try simp only[Act.put,sX])
 refine Af (i:=4) (v:=?vd_4) rfl kR kR kR (fun _ _ _ h=>h) (Or.inl ⟨by rfl,?yd_4⟩) hHeld ?rd_4
 case yd_4 =>
  exact qq54
 (try simp only[Act.put,sX])
 refine Af (i:=5) (v:=?vd_5) rfl kR kR kR (fun _ _ _ h=>h) (Or.inl ⟨by rfl,?yd_5⟩) hHeld ?rd_5
 case yd_5 =>
  exact qq54
 (try simp only[Act.put,sX])
 refine Af (i:=6) (v:=?vd_6) rfl kR kR kR (fun _ _ _ h=>h) (Or.inl ⟨by rfl,?yd_6⟩) hHeld ?rd_6
 case yd_6 =>
  exact qq54
 (try simp only[Act.put,sX])
 refine Af (i:=7) (v:=?vd_7) rfl kR kR kR (fun _ _ _ h=>h) (Or.inl ⟨by rfl,?yd_7⟩) hHeld ?rd_7
 case yd_7 =>
  exact qq54
 (try simp only[Act.put,sX])
 refine Af (i:=8) (v:=?vd_8) rfl kR kR kR (fun _ _ _ h=>h) (Or.inl ⟨by rfl,?yd_8⟩) hHeld ?rd_8
 case yd_8 =>
  exact qq54
 (try simp only[Act.put,sX])
 refine wpAnyH_done kR ?_ _;refine Ea rfl (fun Q'=>?_);go_simp;refine hK.out _ _ ?_;clear hK K
 all_goals go_wp2_with fail
 all_goals go_end0
 all_goals exact⟨rfl,HC.out.fr0 (Fr.refl [] _).drew⟩
section
mutual
def zT:At→Nat
 | .mk _ _ _ _ _ _ args cases=>1+zTs args+zCs cases
def zTs:List At→Nat
 | []=>0
 | x::l=>zT x+zTs l
def zCs:List (Bp×At)→Nat
 | []=>0
 | x::l=>zA x+zCs l
def zA:Bp×At→Nat
 | (p,x)=>zP p+zT x
end
theorem Qw{l:List At}{i:Nat}{x:At}(h:l[i]?=some x):zT x≤zTs l:=by
 induction l generalizing i with
 | nil=>simp at h
 | cons y l ih =>
  cases i with
  | zero=>simp at h;subst h;simp[zTs]
  | succ i=>have:=ih (i:=i) (by simpa using h);simp only[zTs];omega
def Grown(C C':Ck)(k:Nat):Prop:=C.parts+k≤C'.parts∧C'.parts≤16384∧Eh C'∧C'.now=C.now
theorem Eh.same{C C':Ck}(h:Eh C)(hp:C.parts≤C'.parts):Eh ⟨C'.parts,C'.ever,C.now⟩:=by unfold Eh at *;dsimp only;omega
theorem Eh.bind2{C C1:Ck}(h:Eh C)(hp:C.parts+2≤C1.parts)(hn:C1.now=C.now)(v:Int):Eh (C1.bind v):=by
 unfold Eh Ck.bind at *
 simp only[hn,La',List.length_singleton];omega
variable [KdB]
mutual
theorem Le:∀ {x:At}{d:Nat}{C C':Ck},OkT x d C C'→Eh C→Grown C C' 1
 | _,_,C,_,.var hp _,h=>⟨Int.le_refl _,hp.1,h.one,rfl⟩
 | _,_,C,_,.int hp _ _,h=>⟨Int.le_refl _,hp.1,h.one,rfl⟩
 | _,_,C,_,.str hp _ _,h=>⟨Int.le_refl _,hp.1,h.one,rfl⟩
 | _,_,C,_,.bool hp _ _,h=>⟨Int.le_refl _,hp.1,h.one,rfl⟩
 | _,_,C,_,.nam _ hp _ ha _,h=>by
  exact qq151
 | _,_,C,_,.fn _ hp _ ha,h=>by
  exact qq219
 | _,_,C,_,.rec_ _ hp _ ha _,h=>by
  exact qq219
 | _,_,C,_,.let_ _ hp hx hb hy _,h=>by
  obtain⟨h1,h2,h3,h4⟩:=Le hx h.one;have hn:=h.bind2 (by simp only[Ck.one] at h1;omega) h4;obtain⟨k1,k2,k3,k4⟩:=Le hy (hn _);simp only[Ck.one,Ck.bind] at h1 k1
  exact⟨by dsimp only;omega,k2,h.same oM,rfl⟩
 | _,_,C,_,.mat _ _ hp ha hc _,h=>by
  obtain⟨h1,h2,h3,h4⟩:=Fi ha h.one hp.1;obtain⟨k1,k2,k3,k4⟩:=R8 hc h3 h2;simp only[Ck.one] at h1 h4
  exact⟨oM,k2,k3,k4.trans h4⟩
 | _,_,C,_,.recd _ _ hp ha _,h=>by
  exact qq151
 | _,_,C,_,.op _ _ hp ha _,h=>by
  exact qq151
 | _,_,C,_,.gen _ hp ha _,h=>by
  exact qq151
theorem Fi:∀ {l:List At}{d:Nat}{C C':Ck},Kx l d C C'→Eh C→C.parts≤16384→Grown C C' l.length
 | _,_,C,_,.nil,h,hp=>⟨sM,hp,h,rfl⟩
 | _,_,C,_,.cons hx ht,h,hp=>by
  obtain⟨h1,h2,h3,h4⟩:=Le hx h;obtain⟨k1,k2,k3,k4⟩:=Fi ht h3 h2;exact⟨by simp only[Lc'];omega,k2,k3,k4.trans h4⟩
theorem R8:∀ {l:List (Bp×At)}{d:Nat}{C C':Ck},Ux l d C C'→Eh C→C.parts≤16384→Grown C C' l.length
 | _,_,C,_,.nil,h,hp=>⟨sM,hp,h,rfl⟩
 | _,_,C,_,.cons hp' hx ht,h,hp=>by
  obtain⟨h1,h2,h3⟩:=Ud hp' h;obtain⟨j1,j2,j3,j4⟩:=Le hx h3;obtain⟨k1,k2,k3,k4⟩:=R8 ht (h.same oM) j2;dsimp only at k1 k4;exact⟨by simp only[Lc'];omega,k2,k3,k4⟩
end
def MTC(N:Nat):Prop:=∀ (k a v n:Int)(s:LB)(ls:List LB)(args:List At)(cases:List (Bp×At))(A5 A6 A7:Option Addr)(c5 c6 c7:Nat)(d:Nat)(C C':Ck)(w0 w:World)(ok:Nat→Prop)(Q E MT MP:Nat)(A:Option Addr)(c:Nat),
 zT (.mk k a v n s ls args cases)<N→OkT (.mk k a v n s ls args cases) d C C'→Au w0 ok (.mk k a v n s ls args cases) [vI k,vI a,vI v,vI n,vS s,.slice A5 ls.length c5,.slice A6 args.length c6,.slice A7 cases.length c7]→Fh w0 Q E MT MP C A c w→Eh C →
  Calls prog 23 #[.pointer (some ⟨Q,0,none⟩),.agg #[vI k,vI a,vI v,vI n,vS s,.slice A5 ls.length c5,.slice A6 args.length c6,.slice A7 cases.length c7],vI d] w fun e w'=>∃ A' c',e = .returned (.bool true)∧Gi w0 Q E MT MP A w C' A' c' w'
theorem Au.told8{w0 wr:World}{ok:Nat→Prop}{x:At}{cs:List Value}(h:Au w0 ok x cs){g o:Nat}(hc:∀ (j:Nat)(v:Value),cs[j]?=some v→wr.cell? ⟨g,o+j,none⟩=some v):
  ∃ k a v n s ls args cases A5 c5 A6 c6 A7 c7,x = .mk k a v n s ls args cases∧Au w0 ok (.mk k a v n s ls args cases) [vI k,vI a,vI v,vI n,vS s,.slice A5 ls.length c5,.slice A6 args.length c6,.slice A7 cases.length c7]∧wr.cell? ⟨g,o,none⟩=some (vI k)∧wr.cell? ⟨g,o+1,none⟩=some (vI a)∧wr.cell? ⟨g,o+2,none⟩=some (vI v)∧wr.cell? ⟨g,o+3,none⟩=some (vI n)∧wr.cell? ⟨g,o+4,none⟩=some (vS s)∧wr.cell? ⟨g,o+5,none⟩=some (.slice A5 ls.length c5)∧wr.cell? ⟨g,o+6,none⟩=some (.slice A6 args.length c6)∧wr.cell? ⟨g,o+7,none⟩=some (.slice A7 cases.length c7):=by
 cases h with
 | @mk k a v n s ls args cases v5 v6 v7 d5 d6 dp de h5 e5 h6 e6 h7 e7 e8 =>
  obtain⟨A5,cc5,r5⟩:=h5.form;obtain⟨A6,cc6,r6⟩:=h6.form;obtain⟨A7,cc7,r7⟩:=h7.form;subst r5 r6 r7;exact⟨_,_,_,_,_,_,_,_,_,_,_,_,_,_,rfl,.mk d5 d6 dp de h5 e5 h6 e6 h7 e7 e8,hc 0 _ rfl,hc 1 _ rfl,hc 2 _ rfl,hc 3 _ rfl,hc 4 _ rfl,hc 5 _ rfl,hc 6 _ rfl,hc 7 _ rfl⟩
end
section
variable [KdB]
theorem all1_any(N:Nat)(ih:MTC N)(k a v n:Int)(s:LB)(ls:List LB)(args:List At)(cases:List (Bp×At))(A5 A6 A7:Option Addr)(c5 c6 c7:Nat)(d:Nat)(C C':Ck)(w0 w:World)(ok:Nat→Prop)(Q E MT MP:Nat)(A:Option Addr)(c B0 B2:Nat)
  (hN:zT (.mk k a v n s ls args cases)<N) (ho:OkT (.mk k a v n s ls args cases) d C C') (hx:Au w0 ok (.mk k a v n s ls args cases) [vI k,vI a,vI v,vI n,vS s,.slice A5 ls.length c5,.slice A6 args.length c6,.slice A7 cases.length c7]) (h:Fh w0 Q E MT MP C A c w) (hn:Eh C)
  (hb0:w.cell? ⟨B0,0,none⟩=some (.pointer (some ⟨Q,0,none⟩))) (hb2:w.cell? ⟨B2,0,none⟩=some (vI d)) (hl0:B0<w.heap.size) (hl2:B2<w.heap.size) (hd:d≤1000):
  Calls prog 97 #[.agg #[vI k,vI a,vI v,vI n,vS s,.slice A5 ls.length c5,.slice A6 args.length c6,.slice A7 cases.length c7],.pointer (some ⟨B0,0,none⟩),.pointer (some ⟨B2,0,none⟩)] w fun e w'=>∃ A' c',e = .returned (.bool false)∧Gi w0 Q E MT MP A w C' A' c' w':=by
 have f0:=(Fr.refl [] w).alloc (.cells #[vI k,vI a,vI v,vI n,vS s,.slice A5 ls.length c5,.slice A6 args.length c6,.slice A7 cases.length c7] 34);have cP:=Hz (ih k a v n s ls args cases A5 A6 A7 c5 c6 c7 d C C' w0 _ ok Q E MT MP A c hN ho hx (h.fr0 f0) hn);have n0:¬ w.heap.size=B0:=by omega
 have n1:¬ B0=w.heap.size:=by omega
 have n2:¬ w.heap.size=B2:=by omega
 have n3:¬ B2=w.heap.size:=by omega
 have HF:=Hz f0;clear ih hN ho hx h hn f0;go_enter func97,ntmps97;go_wp2_with fail;refine cP.out.mono ?_;rintro e w2 ⟨A',c',rfl,hst⟩;have HS:=Hz (Gi.before HF.out hst);clear hst cP;go_wp2_with fail;go_ret;exact⟨_,_,rfl,HS.out⟩
theorem Vj(N:Nat)(ih:MTC N)(l:List At)(A6:Option Addr)(c6:Nat)(d6:Nat→List Value)(d:Nat)(C C':Ck)(w0 w:World)(ok:Nat→Prop)(Q E MT MP:Nat)(A:Option Addr)(c B0 B2:Nat)
  (hN:zTs l<N) (ho:Kx l d C C') (h6:En w0 ok (.slice A6 l.length c6) l.length 8 d6) (e6:∀ (i:Nat) (x:At),l[i]?=some x→Au w0 ok x (d6 i)) (h:Fh w0 Q E MT MP C A c w) (hn:Eh C) (hp:C.parts≤16384)
  (hb0:w.cell? ⟨B0,0,none⟩=some (.pointer (some ⟨Q,0,none⟩))) (hb2:w.cell? ⟨B2,0,none⟩=some (vI d)) (ha0:Ki Q E A B0 w) (ha2:Ki Q E A B2 w) (hd:d≤1000):
  Calls prog 121 #[.slice A6 l.length c6,.func (.func 97) #[] #[.pointer (some ⟨B0,0,none⟩),.pointer (some ⟨B2,0,none⟩)]] w fun e w'=>∃ A' c',e = .returned (vI (-1))∧Gi w0 Q E MT MP A w C' A' c' w':=by
 have hg:=Fi ho hn hp;have hl:l.length≤16384:=by have:=hg.1;have:=hg.2.1;have:=h.nn;omega
 have IH:=Hz ih;have HN:=Hz hN;have H6:=Hz h6;have E6:Hid (∀ (i:Nat) (x:At),l[i]?=some x→Au w0 ok x (d6 i)):=Hz e6;clear h6 e6;have H:=Hz h;have HB0:=Hz hb0;have HB2:=Hz hb2;have HA0:=Hz ha0;have HA2:=Hz ha2;have HO:=Hz ho;have HNN:=Hz hn;have HPP:=Hz hp;clear ih hN h hb0 hb2 ha0 ha2 ho hn hp hg;go_enter func121,ntmps121;go_wp2_with fail
 go_loopw [8] (fun iv wr=>∃ (i:Nat) (Ci:Ck) (Ai:Option Addr) (ci:Nat),iv=vI i∧i≤l.length∧Hid (Kx (l.drop i) d Ci C')∧Hid (Gi w0 Q E MT MP A w Ci Ai ci wr)∧Hid (Eh Ci)∧Hid (Ci.parts≤16384)) (fun iv wr=>l.length-(intOf iv).toNat)
 case atStart=>exact⟨0,C,A,c,rfl,oM,HO,Hz (Gi.refl H.out),HNN,HPP⟩
 case round =>
  obtain⟨i,Ci,Ai,ci,rfl,hi,KO,KS,KN,KP⟩:=hrel;clear HO;have q1:(0:Int)≤(i:Int):=by omega
  by_cases hlt:i<l.length
  ·have q2:(i:Int)<(l.length:Int):=by omega
   obtain⟨y,hy⟩:∃ y,l[i]?=some y:=⟨l[i],Lg' hlt⟩
   obtain⟨g,o,rfl,hg,hc⟩:=H6.out.elem KS.out.1.fr hlt;have hok:=KO.out;rw[Gn hy] at hok;obtain⟨k2,a2,v2,n2,s2,ls2,args2,cases2,A52,c52,A62,c62,A72,c72,rfl,hx2,x0,x1,x2,x3,x4,x5,x6,x7⟩:=(E6.out i y hy).told8 hc;have hsz:=Qw hy
   cases hok with
   | @cons _ _ _ _ C1 _ ho1 ho2 =>
   have cP:=Hz (all1_any N IH.out k2 a2 v2 n2 s2 ls2 args2 cases2 A52 A62 A72 c52 c62 c72 d Ci C1 w0 wr ok Q E MT MP Ai ci B0 B2 (by have:=HN.out;omega) ho1 hx2 KS.out.1 KN.out (HA0.out.cell KS.out HB0.out) (HA2.out.cell KS.out HB2.out) (HA0.out.step KS.out).2.2.2.2 (HA2.out.step KS.out).2.2.2.2 hd);have hpp:=Le ho1 KN.out;have HO2:=Hz ho2;have HP3:=Hz hpp.2.2.1;have HP2:=Hz hpp.2.1;clear hx2 hsz ho1 ho2 hpp;clear hc hy;go_wp2_with fail;refine cP.out.mono ?_;rintro e w2 ⟨A2,c2,rfl,hst⟩;have HS:=Hz (KS.out.trans hst);clear hst cP;go_wp2_with fail
   go_roundw
   case rel=>exact⟨i+1,_,A2,c2,by go_num,oM,HO2,HS,HP3,HP2⟩
   case measure=>simp[intOf];omega
  ·have q2:¬ (i:Int)<(l.length:Int):=by omega
   have hC:Ci=C':=by
    have hok:=KO.out;rw[List.drop_eq_nil_of_le oM] at hok;cases hok;rfl
   subst hC;go_wp2_with fail;go_ret
   first|exact⟨rfl,_,_,KS.out⟩| exact⟨sM,_,_,KS.out⟩
theorem Qi(N:Nat)(ih:MTC N)(l:List At)(A6:Option Addr)(c6:Nat)(d6:Nat→List Value)(d:Nat)(C C':Ck)(w0 w:World)(ok:Nat→Prop)(Q E MT MP:Nat)(A:Option Addr)(c B0 B2:Nat)
  (hN:zTs l<N) (ho:Kx l d C C') (h6:En w0 ok (.slice A6 l.length c6) l.length 8 d6) (e6:∀ (i:Nat) (x:At),l[i]?=some x→Au w0 ok x (d6 i)) (h:Fh w0 Q E MT MP C A c w) (hn:Eh C) (hp:C.parts≤16384)
  (hb0:w.cell? ⟨B0,0,none⟩=some (.pointer (some ⟨Q,0,none⟩))) (hb2:w.cell? ⟨B2,0,none⟩=some (vI d)) (ha0:Ki Q E A B0 w) (ha2:Ki Q E A B2 w) (hd:d≤1000):
  Calls prog 96 #[.slice A6 l.length c6,.func (.func 97) #[] #[.pointer (some ⟨B0,0,none⟩),.pointer (some ⟨B2,0,none⟩)]] w fun e w'=>∃ A' c',e = .returned (.bool false)∧Gi w0 Q E MT MP A w C' A' c' w':=by
 have cc:=Hz (Vj N ih l A6 c6 d6 d C C' w0 w ok Q E MT MP A c B0 B2 hN ho h6 e6 h hn hp hb0 hb2 ha0 ha2 hd);clear ih hN ho h hn hp hb0 hb2 ha0 ha2;go_enter func96,ntmps96;go_wp2_with fail;refine cc.out.mono ?_;rintro e w1 ⟨A',c',rfl,hs⟩;go_wp2_with fail;go_ret;exact⟨_,_,rfl,hs⟩
theorem nn544(h:p:=by
 clear ih hN ho h6 e6 h hn hp f0 g0 g1 hol hlt;go_enter func52,ntmps52;go_wp2_with fail;refine cC.out.mono ?_;rintro e w2 ⟨A',c',rfl,hst⟩;have HS:=Hz (Gi.before HF.out hst);clear hst cC;go_wp2_with fail;go_ret;exact⟨_,_,rfl,HS.out⟩):p:=h
theorem mall_any(N:Nat)(ih:MTC N)(l:List At)(A6:Option Addr)(c6:Nat)(d6:Nat→List Value)(d:Nat)(C C':Ck)(w0 w:World)(ok:Nat→Prop)(Q E MT MP:Nat)(A:Option Addr)(c:Nat)
  (hN:zTs l<N) (ho:Kx l d C C') (h6:En w0 ok (.slice A6 l.length c6) l.length 8 d6) (e6:∀ (i:Nat) (x:At),l[i]?=some x→Au w0 ok x (d6 i)) (h:Fh w0 Q E MT MP C A c w) (hn:Eh C) (hp:C.parts≤16384) (hd:d≤1000):
  Calls prog 52 #[.pointer (some ⟨Q,0,none⟩),.slice A6 l.length c6,vI d] w fun e w'=>∃ A' c',e = .returned (.bool true)∧Gi w0 Q E MT MP A w C' A' c' w':=by
 have f0:=((Fr.refl [] w).alloc (.cells #[.pointer (some ⟨Q,0,none⟩)] 64)).alloc (.cells #[vI d] 3);have g0:=Ae (Ag w (.cells #[.pointer (some ⟨Q,0,none⟩)] 64)) (.cells #[vI d] 3);have g1:=Ag (w.alloc (.cells #[.pointer (some ⟨Q,0,none⟩)] 64)) (.cells #[vI d] 3);rw[World.size_alloc] at g1;have hlt:=h.lt;have hol:=h.own_lt;have cC:=Hz (Qi N ih l A6 c6 d6 d C C' w0 _ ok Q E MT MP A c w.heap.size (w.heap.size+1) hN ho h6 e6 (h.fr0 f0) hn hp (Ab g0 0) (Ab g1 0) ⟨oM,oM,fun a e=>by have:=hol a e;omega,by simp only[World.size_alloc];omega⟩ ⟨oM,oM,fun a e=>by have:=hol a e;omega,by simp only[World.size_alloc];omega⟩ hd);have HF:=Hz f0;have kqq281:=@Hz _ @nn544;exact qq281
end
section
variable [KdB]
theorem nn332(h:p:=by
 have hck:Fh w (w.heap.size+1+1+1+1) (w.heap.size+1) (w.heap.size+1+1) (w.heap.size+1+1+1) ⟨0,[],[]⟩ none 0 (((((w.alloc (.cells #[vI k,vI a,vI v,vI n,vS s,.slice A5 ls.length c5,.slice A6 args.length c6,.slice A7 cases.length c7] 34)).alloc (.map #[] 0)).alloc (.map (shE 19) 19)).alloc (.map (paE 9) 9)).alloc (.cells #[vI 0,.map (some (w.heap.size+1)),vZ,.map (some (w.heap.size+1+1)),.map (some (w.heap.size+1+1+1))] 70)):=
  ⟨h4,⟨[],H1,fun v=>Iff.rfl⟩,⟨rfl,.inl ⟨rfl,rfl⟩⟩,H2,H3,⟨oM,oM,oM,oM⟩,⟨oM,oM,oM,oM,oM⟩,(fun a e=>by cases e),Int.le_refl _,hf⟩
 have HF:=Hz hf;have cU:=cT _ _ _ _ _ _ _ hck;clear hf hck cT h1 h2 h3 h4 H1 H2 H3;refine cU.out.mono ?_;rintro e w9 ⟨A',c',rfl,hst⟩;have HS:=Hz (hst.1.fr);clear hst cU;go_wp2_with fail;go_ret;exact⟨rfl,HS.out⟩):p:=h
theorem May_ok(hall:∀ N,MTC N)(k a v n:Int)(s:LB)(ls:List LB)(args:List At)(cases:List (Bp×At))(A5 A6 A7:Option Addr)(c5 c6 c7:Nat)(C':Ck)(w:World)(ho:OkT (.mk k a v n s ls args cases) 1 ⟨0,[],[]⟩ C')(hx:Au w (fun b=>b<w.heap.size) (.mk k a v n s ls args cases) [vI k,vI a,vI v,vI n,vS s,.slice A5 ls.length c5,.slice A6 args.length c6,.slice A7 cases.length c7]):
  Calls prog 10 #[.agg #[vI k,vI a,vI v,vI n,vS s,.slice A5 ls.length c5,.slice A6 args.length c6,.slice A7 cases.length c7]] w fun e w'=>e = .returned (.bool true)∧Fr [] w w':=by
 have hmm:=@run_makeMap prog;have cT:=fun W Q E MT MP A c hW=>Hz (hall (zT (.mk k a v n s ls args cases)+1) k a v n s ls args cases A5 A6 A7 c5 c6 c7 1 ⟨0,[],[]⟩ C' w W (fun b=>b<w.heap.size) Q E MT MP A c (Nat.lt_succ_self _) ho hx hW (Int.le_refl _))
 clear ho hx;go_enter func10,ntmps10;go_wp2_with fail;refine(Sm _).mono ?_;rintro e w1 ⟨rfl,rfl⟩;go_wp2_with fail;refine(Ox _).mono ?_;rintro e w2 ⟨rfl,rfl⟩;go_wp2_with fail
 have hf:Fr [] w (((((w.alloc (.cells #[vI k,vI a,vI v,vI n,vS s,.slice A5 ls.length c5,.slice A6 args.length c6,.slice A7 cases.length c7] 34)).alloc (.map #[] 0)).alloc (.map (shE 19) 19)).alloc (.map (paE 9) 9)).alloc (.cells #[vI 0,.map (some (w.heap.size+1)),vZ,.map (some (w.heap.size+1+1)),.map (some (w.heap.size+1+1+1))] 70)):=((((((Fr.refl [] w).alloc (.cells #[vI k,vI a,vI v,vI n,vS s,.slice A5 ls.length c5,.slice A6 args.length c6,.slice A7 cases.length c7] 34)).alloc (.map #[] 0)).alloc (.map (shE 19) 19)).alloc (.map (paE 9) 9)).alloc (.cells #[vI 0,.map (some (w.heap.size+1)),vZ,.map (some (w.heap.size+1+1)),.map (some (w.heap.size+1+1+1))] 70))
 have h1:((w.alloc (.cells #[vI k,vI a,vI v,vI n,vS s,.slice A5 ls.length c5,.slice A6 args.length c6,.slice A7 cases.length c7] 34)).alloc (.map #[] 0)).heap[w.heap.size+1]?=some (.map #[] 0):=by
  have:=Ag (w.alloc (.cells #[vI k,vI a,vI v,vI n,vS s,.slice A5 ls.length c5,.slice A6 args.length c6,.slice A7 cases.length c7] 34)) (.map #[] 0);exact qq164
 have h2:(((w.alloc (.cells #[vI k,vI a,vI v,vI n,vS s,.slice A5 ls.length c5,.slice A6 args.length c6,.slice A7 cases.length c7] 34)).alloc (.map #[] 0)).alloc (.map (shE 19) 19)).heap[w.heap.size+1+1]?=some (.map (shE 19) 19):=by
  have:=Ag ((w.alloc (.cells #[vI k,vI a,vI v,vI n,vS s,.slice A5 ls.length c5,.slice A6 args.length c6,.slice A7 cases.length c7] 34)).alloc (.map #[] 0)) (.map (shE 19) 19);exact qq164
 have h3:((((w.alloc (.cells #[vI k,vI a,vI v,vI n,vS s,.slice A5 ls.length c5,.slice A6 args.length c6,.slice A7 cases.length c7] 34)).alloc (.map #[] 0)).alloc (.map (shE 19) 19)).alloc (.map (paE 9) 9)).heap[w.heap.size+1+1+1]?=some (.map (paE 9) 9):=by
  have:=Ag (((w.alloc (.cells #[vI k,vI a,vI v,vI n,vS s,.slice A5 ls.length c5,.slice A6 args.length c6,.slice A7 cases.length c7] 34)).alloc (.map #[] 0)).alloc (.map (shE 19) 19)) (.map (paE 9) 9);exact qq164
 have h4:(((((w.alloc (.cells #[vI k,vI a,vI v,vI n,vS s,.slice A5 ls.length c5,.slice A6 args.length c6,.slice A7 cases.length c7] 34)).alloc (.map #[] 0)).alloc (.map (shE 19) 19)).alloc (.map (paE 9) 9)).alloc (.cells #[vI 0,.map (some (w.heap.size+1)),vZ,.map (some (w.heap.size+1+1)),.map (some (w.heap.size+1+1+1))] 70)).heap[w.heap.size+1+1+1+1]?=some (.cells #[vI 0,.map (some (w.heap.size+1)),vZ,.map (some (w.heap.size+1+1)),.map (some (w.heap.size+1+1+1))] 70):=by
  have:=Ag ((((w.alloc (.cells #[vI k,vI a,vI v,vI n,vS s,.slice A5 ls.length c5,.slice A6 args.length c6,.slice A7 cases.length c7] 34)).alloc (.map #[] 0)).alloc (.map (shE 19) 19)).alloc (.map (paE 9) 9)) (.cells #[vI 0,.map (some (w.heap.size+1)),vZ,.map (some (w.heap.size+1+1)),.map (some (w.heap.size+1+1+1))] 70);exact qq164
 have kqq130:=@Hz _ @nn332;exact qq130
end
theorem mterm_zero(d:Nat)(C:Ck)(w0 w:World)(Q E MT MP:Nat)(A:Option Addr)(c:Nat)(h:Fh w0 Q E MT MP C A c w):
  Calls prog 23 #[.pointer (some ⟨Q,0,none⟩),.agg #[vI 0,vI 0,vI 0,vI 0,vE,vZ,vZ,vZ],vI d] w fun e w'=>e = .returned (.bool false)∧Fr [] w w':=by
 have hlt:=h.lt;obtain⟨p0,p1,p2,p3,p4,y0,y2⟩:=h.cells;obtain⟨g0,g1,g2,f0,z0⟩:=Gy w (.cells #[.pointer (some ⟨Q,0,none⟩)] 64) (.cells #[vI 0,vI 0,vI 0,vI 0,vE,vZ,vZ,vZ] 34) (.cells #[vI d] 3);unfold Lw at g0 g1 g2 f0 z0;have hX:=h.fr0 f0;clear h
 go_enter_defers func23,ntmps23
 go_wp2_with fail
 generalize ((w.alloc (.cells #[.pointer (some ⟨Q,0,none⟩)] 64)).alloc (.cells #[vI 0,vI 0,vI 0,vI 0,vE,vZ,vZ,vZ] 34)).alloc (.cells #[vI d] 3)=x at *
 have hk1:=Yg x.drew MT hX.mt;have hk2:=Yg (x.alloc (.cells #[.bool false,.bool false,.bool false,vI 0] 98)).drew MT (Ae hX.mt _);have b0:=Ab g0 0;obtain⟨⟨b1,b2,b3,b4,b5,b6,b8,b9⟩,_⟩:=Ac g1;have b7:=Ab g2 0;obtain⟨q0,q1,q2,q3,q4,_,_⟩:=hX.cells;have hg0:=Aa g0;have hg1:=Aa g1;have hg2:=Aa g2;have hqx:=hX.lt.1
 go_region_held3 (fun w'=>w'.cell? ⟨w.heap.size,0,none⟩=some (.pointer (some ⟨Q,0,none⟩))∧w'.cell? ⟨Q,3,none⟩=some (.map (some MT))∧w'.cell? ⟨w.heap.size+1,0,none⟩=some (vI 0)) (first|go_keep) (fail)
 all_goals go_wp2_with fail
 all_goals exact⟨_,results_tmp rfl _ _ _,rfl,f0.trans ((Fr.refl [] x).alloc _).drew⟩
theorem nn331(h:p:=by
 have hck:Fh w (w.heap.size+1+1+1+1) (w.heap.size+1) (w.heap.size+1+1) (w.heap.size+1+1+1) ⟨0,[],[]⟩ none 0 (((((w.alloc (.cells #[vI 0,vI 0,vI 0,vI 0,vE,vZ,vZ,vZ] 34)).alloc (.map #[] 0)).alloc (.map (shE 19) 19)).alloc (.map (paE 9) 9)).alloc (.cells #[vI 0,.map (some (w.heap.size+1)),vZ,.map (some (w.heap.size+1+1)),.map (some (w.heap.size+1+1+1))] 70)):=
  ⟨h4,⟨[],H1,fun v=>Iff.rfl⟩,⟨rfl,.inl ⟨rfl,rfl⟩⟩,H2,H3,⟨oM,oM,oM,oM⟩,⟨oM,oM,oM,oM,oM⟩,(fun a e=>by cases e),Int.le_refl _,hf⟩
 have HF:=Hz hf;have cU:=Hz (mterm_zero 1 ⟨0,[],[]⟩ w _ _ _ _ _ none 0 hck);clear hf hck h1 h2 h3 h4 H1 H2 H3;refine cU.out.mono ?_;rintro e w9 ⟨rfl,hf9⟩;have HS:=Hz (HF.out.trans hf9);clear hf9 cU;go_wp2_with fail;go_ret;exact⟨rfl,HS.out⟩):p:=h
theorem May_zero(w:World):
  Calls prog 10 #[.agg #[vI 0,vI 0,vI 0,vI 0,vE,vZ,vZ,vZ]] w fun e w'=>e = .returned (.bool false)∧Fr [] w w':=by
 have hmm:=@run_makeMap prog;go_enter func10,ntmps10;go_wp2_with fail;refine(Sm _).mono ?_;rintro e w1 ⟨rfl,rfl⟩;go_wp2_with fail;refine(Ox _).mono ?_;rintro e w2 ⟨rfl,rfl⟩;go_wp2_with fail
 have hf:Fr [] w (((((w.alloc (.cells #[vI 0,vI 0,vI 0,vI 0,vE,vZ,vZ,vZ] 34)).alloc (.map #[] 0)).alloc (.map (shE 19) 19)).alloc (.map (paE 9) 9)).alloc (.cells #[vI 0,.map (some (w.heap.size+1)),vZ,.map (some (w.heap.size+1+1)),.map (some (w.heap.size+1+1+1))] 70)):=((((((Fr.refl [] w).alloc (.cells #[vI 0,vI 0,vI 0,vI 0,vE,vZ,vZ,vZ] 34)).alloc (.map #[] 0)).alloc (.map (shE 19) 19)).alloc (.map (paE 9) 9)).alloc (.cells #[vI 0,.map (some (w.heap.size+1)),vZ,.map (some (w.heap.size+1+1)),.map (some (w.heap.size+1+1+1))] 70))
 have h1:((w.alloc (.cells #[vI 0,vI 0,vI 0,vI 0,vE,vZ,vZ,vZ] 34)).alloc (.map #[] 0)).heap[w.heap.size+1]?=some (.map #[] 0):=by
  have:=Ag (w.alloc (.cells #[vI 0,vI 0,vI 0,vI 0,vE,vZ,vZ,vZ] 34)) (.map #[] 0);exact qq164
 have h2:(((w.alloc (.cells #[vI 0,vI 0,vI 0,vI 0,vE,vZ,vZ,vZ] 34)).alloc (.map #[] 0)).alloc (.map (shE 19) 19)).heap[w.heap.size+1+1]?=some (.map (shE 19) 19):=by
  have:=Ag ((w.alloc (.cells #[vI 0,vI 0,vI 0,vI 0,vE,vZ,vZ,vZ] 34)).alloc (.map #[] 0)) (.map (shE 19) 19);exact qq164
 have h3:((((w.alloc (.cells #[vI 0,vI 0,vI 0,vI 0,vE,vZ,vZ,vZ] 34)).alloc (.map #[] 0)).alloc (.map (shE 19) 19)).alloc (.map (paE 9) 9)).heap[w.heap.size+1+1+1]?=some (.map (paE 9) 9):=by
  have:=Ag (((w.alloc (.cells #[vI 0,vI 0,vI 0,vI 0,vE,vZ,vZ,vZ] 34)).alloc (.map #[] 0)).alloc (.map (shE 19) 19)) (.map (paE 9) 9);exact qq164
 have h4:(((((w.alloc (.cells #[vI 0,vI 0,vI 0,vI 0,vE,vZ,vZ,vZ] 34)).alloc (.map #[] 0)).alloc (.map (shE 19) 19)).alloc (.map (paE 9) 9)).alloc (.cells #[vI 0,.map (some (w.heap.size+1)),vZ,.map (some (w.heap.size+1+1)),.map (some (w.heap.size+1+1+1))] 70)).heap[w.heap.size+1+1+1+1]?=some (.cells #[vI 0,.map (some (w.heap.size+1)),vZ,.map (some (w.heap.size+1+1)),.map (some (w.heap.size+1+1+1))] 70):=by
  have:=Ag ((((w.alloc (.cells #[vI 0,vI 0,vI 0,vI 0,vE,vZ,vZ,vZ] 34)).alloc (.map #[] 0)).alloc (.map (shE 19) 19)).alloc (.map (paE 9) 9)) (.cells #[vI 0,.map (some (w.heap.size+1)),vZ,.map (some (w.heap.size+1+1)),.map (some (w.heap.size+1+1+1))] 70);exact qq164
 have kqq130:=@Hz _ @nn331;exact qq130
section
variable [KdB]
theorem nn79(h:p:=by
 have cB:=Hz (mbind_any HS8.out.1 v HBB.out.1 (by have h1:=HNN.out.one;have h2:=HP.out.1;unfold Eh at h1;simp only[Ck.one] at h1 ⊢;omega));refine cB.out.mono ?_;rintro e y9 ⟨A1,c1,rfl,h9⟩;replace G0:=((HAP8.out _ oM oM).step h9).1.trans G0;replace G1:=((HAP8.out _ oM oM).step h9).1.trans G1;replace G2:=((HAP8.out _ oM oM).step h9).1.trans G2;replace G9:=((HAP8.out _ oM oM).step h9).1.trans G9;have HS9:=Hz (HS8.out.trans h9);have HAP9:Hid (∀ k,w.heap.size≤k→k<y8.heap.size→Ki Q E A1 k y9):=Hz (fun k h1 h2=>((HAP8.out k h1 h2).step h9).2);clear h9 cB;clear b0 b1 b2 b3 b4 b5 b6 b7 b8 b9 s0 s1 s2 s3;obtain⟨⟨b1,b2,b3,b4,b5,b6,b8,b9⟩,_⟩:=Ac G1;have b0:=Ab G0 0;have b7:=Ab G2 0;have s0:=Ab G3 0;have s1:=Ab G3 1;have s2:=Ab G3 2;have s3:=Ab G3 3;have cA:=Hz (mall_any N IH.out args A6 c6 d6 (d+1) (C.one.bind v) C1 w0 y9 ok Q E MT MP A1 c1 HBB.out.2.1 HBB.out.2.2 H6.out E6.out HS9.out.1 (HNN.out.bind1 v) HP.out.1 oM);have hgr:=Fi HBB.out.2.2 (HNN.out.bind1 v) HP.out.1;have hgn:C1.now=C.now++[v]:=hgr.2.2.2;have HNL:Hid (C.one.now.length≤C1.now.length):=Hz (by rw[hgn];simp[Ck.one]);have HCX:Hid ((⟨C1.parts,C1.ever,C1.now.take C.one.now.length⟩:Ck)=C'):=Hz (by rw[HCC.out,hgn];simp[Ck.one]);clear hgr hgn;go_wp2_with fail;refine cA.out.mono ?_;rintro e y10 ⟨A2,c2,rfl,h10⟩;replace G0:=((HAP9.out _ oM oM).step h10).1.trans G0;replace G1:=((HAP9.out _ oM oM).step h10).1.trans G1;replace G2:=((HAP9.out _ oM oM).step h10).1.trans G2;replace G9:=((HAP9.out _ oM oM).step h10).1.trans G9;have HS10:=Hz (HS9.out.trans h10);clear h10 cA;go_wp2_with fail;refine leaves_cons (f:=49) (args:=#[.pointer (some ⟨w.heap.size,0,none⟩),.pointer (some ⟨B9,0,none⟩)]) sM (by simp[go_sem]) ?_;refine(Rx HS10.out.1 w.heap.size B9 C.one.now.length (Ab G0 0) (Ab G9 0) HNL.out oM oM .returning).mono ?_;rintro e u' w9 ⟨rfl,rfl,hs9⟩;have hfin:=HS10.out.trans hs9;rw[HCX.out] at hfin;exact⟨_,results_tmp rfl _ _ _,_,_,rfl,hfin⟩):p:=h
theorem nn160(h:p:=by
 have t1:(k==1)=false:=bN.2 oM;have kqq284:=@Hz _ @nn548;exact qq284):p:=h
theorem nn237(h:p:=by
 go_region_held3 (fun w'=>w'.cell? ⟨w.heap.size,0,none⟩=some (.pointer (some ⟨Q,0,none⟩))∧w'.cell? ⟨Q,3,none⟩=some (.map (some MT))∧w'.cell? ⟨w.heap.size+1,0,none⟩=some (vI k)) (first|go_keep) (fail)
 all_goals
  have kqq23:=@Hz _ @nn79;exact qq23):p:=h
theorem nn548(h:p:=by
 have t7:(k==7)=true:=by simp[hk]
 have kqq83:=@Hz _ @nn237;exact qq83):p:=h
theorem mterm_fn(N:Nat)(ih:MTC N)(k a v n:Int)(s:LB)(ls:List LB)(args:List At)(cases:List (Bp×At))(A5 A6 A7:Option Addr)(c5 c6 c7:Nat)(d:Nat)(C C':Ck)(w0 w:World)(ok:Nat→Prop)(Q E MT MP:Nat)(A:Option Addr)(c:Nat)(bv bn bs:Bool)(ha:Int)
  (hx:Au w0 ok (.mk k a v n s ls args cases) [vI k,vI a,vI v,vI n,vS s,.slice A5 ls.length c5,.slice A6 args.length c6,.slice A7 cases.length c7]) (h:Fh w0 Q E MT MP C A c w) (hn:Eh C) (hp:E9 d C) (hon:Tm ls) (hlk:∀ (x:World) (r:Nat),x.heap[r]?=some (.map (shE 19) 19)→(Instr.lookup Ln (.map (some r)) (vI k) true).run prog x = .ok (.tuple #[.agg #[.bool bv,.bool bn,.bool bs,vI ha],.bool true]) x)
  (hv:bv=true∨v=0) (hnn:bn=true∨n=0) (hs:bs=true∨s=[]) (ha':(ha = -1∧args.length=ls.length)∨(ha≠-1∧ls.length=0∧(args.length:Int)=ha)) (hll:ls.length≤8796093022208) (C1:Ck) (hk:k=7) (hb:Tk v C.one∧zTs args<N∧Kx args (d+1) (C.one.bind v) C1) (hC:C'=⟨C1.parts,C1.ever,C.now⟩) (hcs:cases.length=0):
  Calls prog 23 #[.pointer (some ⟨Q,0,none⟩),.agg #[vI k,vI a,vI v,vI n,vS s,.slice A5 ls.length c5,.slice A6 args.length c6,.slice A7 cases.length c7],vI d] w fun e w'=>∃ A' c',e = .returned (.bool true)∧Gi w0 Q E MT MP A w C' A' c' w':=by
 have kqq55:=@Hz _ @nn160;exact qq55
end
section
variable [KdB]
def IntsO(g:Nat)(l:List Int)(w:World):Prop:=∀ (i:Nat)(x:Int),l[i]?=some x→w.cell? ⟨g,i,none⟩=some (vI x)
theorem nn569(h:p:=by
 by_cases hq:l[k]=x
 ·have hq2:(x==l[k])=true:=by rw[hq];simp
  clear hq HS HK
  generalize l[k]=y at *
  go_wp2_with fail;go_ret;exact⟨k,rfl,oM,rfl⟩
 ·have HS2:=HS hq;have hq2:(x==l[k])=false:=by rw[bN];exact fun h=>hq h.symm
  clear hq HS;exact qq159):p:=h
theorem mIndexI(g c:Nat)(l:List Int)(x:Int)(hx:x ∈ l)(hl:l.length≤8796093022208)(w:World)(h:IntsO g l w):
  Calls prog 95 #[.slice (some ⟨g,0,none⟩) l.length c,vI x] w fun e w'=>∃ n:Int,e = .returned (vI n)∧0≤n∧w=w':=by
 have HC:=Hz h
 have HM:Hid (¬ ∀ j (hj:j<l.length),l[j]≠x):=Hz (fun hn=>by
  obtain⟨j,hj,e⟩:=List.mem_iff_getElem.1 hx
  exact hn j hj e)
 clear h hx;go_enter func95,ntmps95;go_wp2_with fail
 go_loop [8] (fun i=>∃ k:Nat,i=vI k∧k≤l.length∧Hid (∀ j (hj:j<l.length),j<k→l[j]≠x)) (fun i=>l.length-(intOf i).toNat)
 case atStart=>exact⟨0,rfl,oM,Hz (fun j _ h=>absurd h oM)⟩
 case round =>
  obtain⟨k,rfl,hk,HK⟩:=hrel;have q1:(0:Int)≤(k:Int):=by omega
  by_cases hlt:k<l.length
  ·have hcell:=HC.out k _ (Lg' hlt);have q2:(k:Int)<(l.length:Int):=by omega
   have kqq312:=@Hz _ @nn569;exact qq312
  ·exact absurd (fun j hj=>HK.out j hj oM) HM.out
theorem Z4(g c:Nat)(l:List Int)(x:Int)(hx:x ∈ l)(hl:l.length≤8796093022208)(w:World)(h:IntsO g l w):
  Calls prog 50 #[.slice (some ⟨g,0,none⟩) l.length c,vI x] w fun e w'=>e = .returned (.bool true)∧w=w':=by
 have cc:=Hz (mIndexI g c l x hx hl w h);clear h hx;go_enter func50,ntmps50;go_wp2_with fail;refine cc.out.mono ?_;rintro e w1 ⟨n,rfl,hn,rfl⟩;go_wp2_with fail;go_ret;exact⟨by first|(simp;done)| (simp;omega),rfl⟩
theorem Fh.ints{w0 w:World}{Q E MT MP:Nat}{C:Ck}{A:Option Addr}{c:Nat}(h:Fh w0 Q E MT MP C A c w){v:Int}(hv:v ∈ C.now):∃ g,A=some ⟨g,0,none⟩∧IntsO g C.now w:=by
 rcases h.row.2 with⟨hv',hn⟩| ⟨g,cap,cur,hv',_,hg,_⟩
 ·rw[List.length_eq_zero_iff.1 hn] at hv;simp at hv
 ·cases hv';refine⟨g,rfl,fun i x hx=>?_⟩;have hi:=(List.getElem?_eq_some_iff.1 hx).1;rw[World.ownsRow.cellAt h.row i oM,List.getElem?_map,hx];rfl
theorem nn78(h:p:=by
 obtain⟨gi,rfl,hin⟩:=HS8.out.1.ints (show v ∈ C.one.now from HBB.out);have hcl:C.one.now.length≤16384:=by have h1:=HNN.out;have h2:=HP.out.1;unfold Eh at h1;simp only[Ck.one];omega
 have HIN:=Hz hin;have cI:=Hz (Z4 gi c C.one.now v HBB.out oM y8.drew HIN.out);obtain⟨q0,q1,q2,q3,q4,_,_⟩:=HS8.out.1.cells;clear hin
 go_region_held3 (fun w'=>w'.cell? ⟨w.heap.size,0,none⟩=some (.pointer (some ⟨Q,0,none⟩))∧w'.cell? ⟨Q,2,none⟩=some (.slice (some ⟨gi,0,none⟩) C.one.now.length c)∧w'.cell? ⟨w.heap.size+1,2,none⟩=some (vI v)) (first|go_keep)
  ((first|((with_reducible refine cI.out.mono ?_);rintro e w' ⟨rfl,rfl⟩)))
 all_goals
  have fd:=(Fr.refl [] y8).drew;replace G0:=fd.keep G0 nE;replace G9:=fd.keep G9 nE;have HS9:=Hz (HS8.out.fr0 fd);go_wp2_with fail;have HNL:Hid (C.one.now.length≤C.one.now.length):=Hz (Nr' _);have HCX:Hid ((⟨C.one.parts,C.one.ever,C.one.now.take C.one.now.length⟩:Ck)=C'):=Hz (by rw[HCC.out,List.take_length]);refine leaves_cons (f:=49) (args:=#[.pointer (some ⟨w.heap.size,0,none⟩),.pointer (some ⟨B9,0,none⟩)]) sM (by simp[go_sem]) ?_;refine(Rx HS9.out.1 w.heap.size B9 C.one.now.length (Ab G0 0) (Ab G9 0) HNL.out oM oM .returning).mono ?_;rintro e u' w9 ⟨rfl,rfl,hs9⟩;have hfin:=HS9.out.trans hs9;rw[HCX.out] at hfin;exact⟨_,results_tmp rfl _ _ _,_,_,rfl,hfin⟩):p:=h
theorem nn159(h:p:=by
 have t1:(k==1)=true:=by simp[hk]
 have kqq284:=@Hz _ @nn549;exact qq284):p:=h
theorem nn238(h:p:=by
 go_region_held3 (fun w'=>w'.cell? ⟨w.heap.size,0,none⟩=some (.pointer (some ⟨Q,0,none⟩))∧w'.cell? ⟨Q,3,none⟩=some (.map (some MT))∧w'.cell? ⟨w.heap.size+1,0,none⟩=some (vI k)) (first|go_keep) (fail)
 all_goals
  have kqq23:=@Hz _ @nn78;exact qq23):p:=h
theorem nn549(h:p:=by
 have t7:(k==7)=false:=bN.2 oM;have kqq83:=@Hz _ @nn238;exact qq83):p:=h
theorem mterm_var(N:Nat)(ih:MTC N)(k a v n:Int)(s:LB)(ls:List LB)(args:List At)(cases:List (Bp×At))(A5 A6 A7:Option Addr)(c5 c6 c7:Nat)(d:Nat)(C C':Ck)(w0 w:World)(ok:Nat→Prop)(Q E MT MP:Nat)(A:Option Addr)(c:Nat)(bv bn bs:Bool)(ha:Int)
  (hx:Au w0 ok (.mk k a v n s ls args cases) [vI k,vI a,vI v,vI n,vS s,.slice A5 ls.length c5,.slice A6 args.length c6,.slice A7 cases.length c7]) (h:Fh w0 Q E MT MP C A c w) (hn:Eh C) (hp:E9 d C) (hon:Tm ls) (hlk:∀ (x:World) (r:Nat),x.heap[r]?=some (.map (shE 19) 19)→(Instr.lookup Ln (.map (some r)) (vI k) true).run prog x = .ok (.tuple #[.agg #[.bool bv,.bool bn,.bool bs,vI ha],.bool true]) x)
  (hv:bv=true∨v=0) (hnn:bn=true∨n=0) (hs:bs=true∨s=[]) (ha':(ha = -1∧args.length=ls.length)∨(ha≠-1∧ls.length=0∧(args.length:Int)=ha)) (hll:ls.length≤8796093022208) (hk:k=1) (hb:v ∈ C.now) (hC:C'=C.one) (hcs:cases.length=0):
  Calls prog 23 #[.pointer (some ⟨Q,0,none⟩),.agg #[vI k,vI a,vI v,vI n,vS s,.slice A5 ls.length c5,.slice A6 args.length c6,.slice A7 cases.length c7],vI d] w fun e w'=>∃ A' c',e = .returned (.bool true)∧Gi w0 Q E MT MP A w C' A' c' w':=by
 have kqq55:=@Hz _ @nn159;exact qq55
end
end
section
@[reducible] def KdB.no:KdB:=⟨False⟩
attribute [local instance] KdB.no
theorem Ua:∀ N,MTC N
 | 0=>by
  intro k a v n s ls args cases A5 A6 A7 c5 c6 c7 d C C' w0 w ok Q E MT MP A c hN
  exact absurd hN (Nat.not_lt_zero _)
 | N+1=>by
  intro k a v n s ls args cases A5 A6 A7 c5 c6 c7 d C C' w0 w ok Q E MT MP A c hN ho hx h hn;have hNa:zTs args<N∧zCs cases<N:=by rw[zT] at hN;omega
  have ih:=Ua N
  have hon0:Tm ([]:List LB):=⟨fun x hx=>by simp at hx,rfl⟩
  cases ho with
  | var hp hv=>exact mterm_var N ih 1 a _ 0 [] [] [] [] A5 A6 A7 c5 c6 c7 d C _ w0 w ok Q E MT MP A c true false false 0 hx h hn hp hon0 (fun x r hb=>sh_hit1 x r hb) (.inl rfl) (.inr rfl) (.inr rfl) (.inr ⟨dC,rfl,rfl⟩) sM rfl hv rfl rfl
  | int _ _ hK=>exact(hK:False).elim
  | str _ _ hK=>exact(hK:False).elim
  | bool _ _ hK=>exact(hK:False).elim
  | nam _ _ _ _ hK=>exact(hK:False).elim
  | fn hl hp hb ha=>exact mterm_fn N ih 7 a _ 0 [] [] args [] A5 A6 A7 c5 c6 c7 d C _ w0 w ok Q E MT MP A c true false false 1 hx h hn hp hon0 (fun x r hb=>sh_hit7 x r hb) (.inl rfl) (.inr rfl) (.inr rfl) (.inr ⟨dC,rfl,oM⟩) sM _ rfl ⟨hb,hNa.1,ha⟩ rfl rfl
  | rec_ _ _ _ _ hK=>exact(hK:False).elim
  | let_ _ _ _ _ _ hK=>exact(hK:False).elim
  | mat _ _ _ _ _ hK=>exact(hK:False).elim
  | recd _ _ _ _ hK=>exact(hK:False).elim
  | op _ _ _ _ hK=>exact(hK:False).elim
  | gen _ _ _ hK=>exact(hK:False).elim
end
end Go.Proofs.YtlafbbnikgcdlaaGreatDoor
