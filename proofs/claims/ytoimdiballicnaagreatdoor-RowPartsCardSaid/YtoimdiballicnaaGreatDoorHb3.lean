/- A part of the proof: Uz3, Ga, Gb, Gc, Uz4, Gd, Ge, Gf, Go, Jb, Je, Jf, Jg, Js, Uz5. -/
import Derived.Deep.QuietTactic
import Derived.Deep.RegionHeld3
import Derived.BigQuiet
import Derived.Deep.DrawnRows
import Derived.Deep.AppendLies
import Derived.Deep.DeepCutAuto
import Derived.Test.YtoimdiballicnaaGreatDoorHb1
import Derived.Test.YtoimdiballicnaaGreatDoorHb2
namespace Go.Proofs.YtoimdiballicnaaGreatDoor
open Go.RowKit
set_option linter.all false
set_option maxHeartbeats 16000000
set_option maxRecDepth 100000
def Cut(a:Nat)(most n:Int):Prop:=((a:Int)≤most→n=a)∧(most<(a:Int)→most<n)
theorem cut_add{a z:Nat}{most n s:Int}(h:Cut a most n)(hs:n≤most→Cut z (most-n) s):Cut (a+z) most (if n≤most then n+s else n):=by
 unfold Cut at *
 by_cases c:n≤most
 ·have hs:=hs c
  rw[if_pos c]
  by_cases d:(a:Int)≤most
  ·have e:=h.1 d
   constructor
   ·intro k;have:=hs.1 (by omega);omega
   ·intro k;have:=hs.2 (by omega);omega
  ·have:=h.2 (by omega);omega
 ·rw[if_neg c]
  by_cases d:(a:Int)≤most
  ·have e:=h.1 d;omega
  ·constructor
   ·intro k;omega
   ·intro k;omega
theorem cut_one{a:Nat}{most n:Int}(h:Cut a most n):Cut (a+1) most (n+1):=by
 unfold Cut at *
 by_cases d:(a:Int)≤most
 ·have e:=h.1 d;omega
 ·have:=h.2 (by omega);omega
theorem cut_self(a:Nat)(most:Int):Cut a most a:=⟨fun _=>rfl,fun h=>h⟩
theorem cut_gt{a:Nat}{most n:Int}(h:Cut a most n):n > most↔(a:Int)> most:=by
 unfold Cut at h
 constructor
 ·intro k
  refine Classical.byContradiction (fun c=>?_)
  have:=h.1 (by omega);omega
 ·intro k;exact h.2 k
def hdF(f:Fd):List Value:=[.string ⟨f.lb.toArray⟩,.int .i64 f.pr,.int .i64 f.p]
inductive TyAt (w:World)(ok:Nat→Prop)(P:List UInt8→Prop):TyT→List Value→Prop
 | mk {k v args fs rest v2 v3} (ca ch ct:Nat→List Value) (h2:SlAt w ok v2 args.length 5 ca) (e2:∀ (i:Nat) (x:TyT),args[i]?=some x→TyAt w ok P x (ca i))
   (h3:SlAt w ok v3 fs.length 8 (fun i=>ch i++ct i)) (e3:∀ (i:Nat) (f:Fd),fs[i]?=some f→ch i=hdF f∧P f.lb) (e4:∀ (i:Nat) (f:Fd),fs[i]?=some f→TyAt w ok P f.t (ct i)):
   TyAt w ok P (.mk k v args fs rest) [.int .i64 k,.int .i64 v,v2,v3,.int .i64 rest]
theorem TyAt.keep{w w':World}{ok ok':Nat→Prop}{P:List UInt8→Prop}{x:TyT}{cs:List Value}(h:TyAt w ok P x cs)(hs:Sh w w' ok ok'):TyAt w' ok' P x cs:=by
 induction h with
 | mk ca ch ct h2 e2 h3 e3 e4 ih2 ih4=>exact .mk ca ch ct (h2.keep hs) ih2 (h3.keep hs) e3 ih4
theorem TyAt.len{w:World}{ok:Nat→Prop}{P:List UInt8→Prop}{x:TyT}{cs:List Value}(h:TyAt w ok P x cs):cs.length=5:=by cases h;rfl
def ArAt(w:World)(ok:Nat→Prop)(P:List UInt8→Prop)(v:Value)(l:List TyT):Prop:=∃ ca:Nat→List Value,SlAt w ok v l.length 5 ca∧∀ (i:Nat)(x:TyT),l[i]?=some x→TyAt w ok P x (ca i)
def FsAt(w:World)(ok:Nat→Prop)(P:List UInt8→Prop)(v:Value)(l:List Fd):Prop:=∃ ch ct:Nat→List Value,SlAt w ok v l.length 8 (fun i=>ch i++ct i)∧(∀ (i:Nat)(f:Fd),l[i]?=some f→ch i=hdF f∧P f.lb)∧∀ (i:Nat)(f:Fd),l[i]?=some f→TyAt w ok P f.t (ct i)
section
variable {w w':World} {ok ok':Nat→Prop} {P:List UInt8→Prop}
theorem TyAt.iff{k v rest:Int}{args:List TyT}{fs:List Fd}{cs:List Value}:TyAt w ok P (.mk k v args fs rest) cs↔∃ v2 v3,cs=[.int .i64 k,.int .i64 v,v2,v3,.int .i64 rest]∧ArAt w ok P v2 args∧FsAt w ok P v3 fs:=by
 constructor
 ·intro h
  cases h with
  | mk ca ch ct h2 e2 h3 e3 e4=>exact⟨_,_,rfl,⟨ca,h2,e2⟩,⟨ch,ct,h3,e3,e4⟩⟩
 ·rintro⟨v2,v3,rfl,⟨ca,h2,e2⟩,⟨ch,ct,h3,e3,e4⟩⟩
  exact .mk ca ch ct h2 e2 h3 e3 e4
theorem TyAt.open_{t:TyT}{cs:List Value}(h:TyAt w ok P t cs):∃ A c B d,cs=[.int .i64 t.k,.int .i64 t.v,.slice A t.args.length c,.slice B t.fs.length d,.int .i64 t.rest]∧ArAt w ok P (.slice A t.args.length c) t.args∧FsAt w ok P (.slice B t.fs.length d) t.fs:=by
 obtain⟨k,v,args,fs,rest⟩:=t
 obtain⟨v2,v3,rfl,h2,h3⟩:=TyAt.iff.1 h
 obtain⟨A,c,rfl⟩:=h2.choose_spec.1.form
 obtain⟨B,d,rfl⟩:=h3.choose_spec.choose_spec.1.form
 exact⟨A,c,B,d,rfl,h2,h3⟩
theorem ArAt.keep{v:Value}{l:List TyT}(h:ArAt w ok P v l)(hs:Sh w w' ok ok'):ArAt w' ok' P v l:=by
 obtain⟨ca,h1,h2⟩:=h
 exact⟨ca,h1.keep hs,fun i x hi=>(h2 i x hi).keep hs⟩
theorem FsAt.keep{v:Value}{l:List Fd}(h:FsAt w ok P v l)(hs:Sh w w' ok ok'):FsAt w' ok' P v l:=by
 obtain⟨ch,ct,h1,h2,h3⟩:=h
 exact⟨ch,ct,h1.keep hs,h2,fun i x hi=>(h3 i x hi).keep hs⟩
theorem FsAt.nil(A:Option Addr)(c:Nat):FsAt w ok P (.slice A 0 c) []:=⟨fun _=>[],fun _=>[],.inl ⟨A,c,rfl,rfl⟩,fun _ _ h=>by simp at h,fun _ _ h=>by simp at h⟩
theorem ArAt.nil(A:Option Addr)(c:Nat):ArAt w ok P (.slice A 0 c) []:=⟨fun _=>[],.inl ⟨A,c,rfl,rfl⟩,fun _ _ h=>by simp at h⟩
theorem FsAt.form{v:Value}{l:List Fd}(h:FsAt w ok P v l):∃ A c,v = .slice A l.length c:=h.choose_spec.choose_spec.1.form
theorem ArAt.form{v:Value}{l:List TyT}(h:ArAt w ok P v l):∃ A c,v = .slice A l.length c:=h.choose_spec.1.form
theorem FsAt.lab{v:Value}{l:List Fd}(h:FsAt w ok P v l):∀ f ∈ l,P f.lb:=fun f hf=>by
 obtain⟨i,hi⟩:=List.getElem?_of_mem hf
 exact(h.choose_spec.choose_spec.2.1 i f hi).2
theorem ArAt.at{A:Option Addr}{n c:Nat}{l:List TyT}(h:ArAt w ok P (.slice A n c) l){i:Nat}{x:TyT}(hi:l[i]?=some x):∃ g o,A=some ⟨g,o,none⟩∧ok g∧g<w.heap.size ∧
  ∃ B d D e,TyAt w ok P x [.int .i64 x.k,.int .i64 x.v,.slice B x.args.length d,.slice D x.fs.length e,.int .i64 x.rest]∧w.cell? ⟨g,o+i * 5,none⟩=some (.int .i64 x.k)∧w.cell? ⟨g,o+i * 5+1,none⟩=some (.int .i64 x.v)∧w.cell? ⟨g,o+i * 5+2,none⟩=some (.slice B x.args.length d)∧w.cell? ⟨g,o+i * 5+3,none⟩=some (.slice D x.fs.length e)∧w.cell? ⟨g,o+i * 5+4,none⟩=some (.int .i64 x.rest):=by
 obtain⟨ca,h1,h2⟩:=h
 obtain⟨g,o,rfl,_,hg,hok,hl,hc⟩:=h1.row (List.getElem?_eq_some_iff.1 hi).1
 have hx:=h2 i x hi
 obtain⟨B,d,D,e,he,_,_⟩:=hx.open_
 rw[he] at hx hc
 exact⟨g,o,rfl,hok,hg,B,d,D,e,hx,hc 0 _ rfl,hc 1 _ rfl,hc 2 _ rfl,hc 3 _ rfl,hc 4 _ rfl⟩
theorem FsAt.at{A:Option Addr}{n c:Nat}{l:List Fd}(h:FsAt w ok P (.slice A n c) l){i:Nat}{f:Fd}(hi:l[i]?=some f):∃ g o,A=some ⟨g,o,none⟩∧ok g∧g<w.heap.size ∧
  ∃ B d D e,TyAt w ok P f.t [.int .i64 f.t.k,.int .i64 f.t.v,.slice B f.t.args.length d,.slice D f.t.fs.length e,.int .i64 f.t.rest]∧w.cell? ⟨g,o+i * 8,none⟩=some (.string ⟨f.lb.toArray⟩)∧w.cell? ⟨g,o+i * 8+1,none⟩=some (.int .i64 f.pr)∧w.cell? ⟨g,o+i * 8+2,none⟩=some (.int .i64 f.p)∧
   w.cell? ⟨g,o+i * 8+3,none⟩=some (.int .i64 f.t.k)∧w.cell? ⟨g,o+i * 8+4,none⟩=some (.int .i64 f.t.v)∧w.cell? ⟨g,o+i * 8+5,none⟩=some (.slice B f.t.args.length d)∧w.cell? ⟨g,o+i * 8+6,none⟩=some (.slice D f.t.fs.length e)∧w.cell? ⟨g,o+i * 8+7,none⟩=some (.int .i64 f.t.rest):=by
 obtain⟨ch,ct,h1,h2,h3⟩:=h
 obtain⟨g,o,rfl,_,hg,hok,hl,hc⟩:=h1.row (List.getElem?_eq_some_iff.1 hi).1
 have hx:=h3 i f hi
 obtain⟨B,d,D,e,he,_,_⟩:=hx.open_
 rw[he] at hx
 rw[(h2 i f hi).1,he] at hc
 exact⟨g,o,rfl,hok,hg,B,d,D,e,hx,hc 0 _ rfl,hc 1 _ rfl,hc 2 _ rfl,hc 3 _ rfl,hc 4 _ rfl,hc 5 _ rfl,hc 6 _ rfl,hc 7 _ rfl⟩
theorem TyAt.mono{P':List UInt8→Prop}(hP:∀ x,P x→P' x){t:TyT}{cs:List Value}(h:TyAt w ok P t cs):TyAt w ok P' t cs:=by
 induction h with
 | mk ca ch ct h2 e2 h3 e3 e4 ih2 ih4=>exact .mk ca ch ct h2 ih2 h3 (fun i f hi=>⟨(e3 i f hi).1,hP _ (e3 i f hi).2⟩) ih4
end
theorem TyAt.zero(w:World)(ok:Nat→Prop)(P:List UInt8→Prop):TyAt w ok P .zero [.int .i64 0,.int .i64 0,.slice none 0 0,.slice none 0 0,.int .i64 0] :=
 TyAt.iff.2 ⟨_,_,rfl,.nil _ _,.nil _ _⟩
theorem find_push{k n:Int}{u:Value}{c:Nat}:∀ {l:List MapEntry}{j:Nat},Instr.findNow (.int .i64) (.int .i64 k) l j=some none→Instr.findNow (.int .i64) (.int .i64 k) (l++[⟨.int .i64 n,u,c⟩]) j=if k=n then some (some (j+l.length,u))else some none
 | [],j,_=>by
  by_cases e:k=n
  ·simp[Instr.findNow,Instr.sameNow,e]
  ·have e':(k==n)=false:=beq_eq_false_iff_ne.2 e
   rw[if_neg e]
   simp[Instr.findNow,Instr.sameNow,e']
 | x::l,j,h=>by
  rw[List.cons_append,Instr.findNow]
  rw[Instr.findNow] at h
  revert h
  cases Instr.sameNow (.int .i64) (.int .i64 k) x.key with
  | none=>intro h;cases h
  | some b =>
   cases b with
   | true=>intro h;cases h
   | false =>
    intro h
    have:=find_push (n:=n) (u:=u) (c:=c) (j:=j+1) h
    rw[show j+1+l.length=j+(x::l).length by simp;omega] at this
    exact this
theorem find_push_hit{k n:Int}{u:Value}{c:Nat}{r:Nat×Value}:∀ {l:List MapEntry}{j:Nat},Instr.findNow (.int .i64) (.int .i64 k) l j=some (some r)→Instr.findNow (.int .i64) (.int .i64 k) (l++[⟨.int .i64 n,u,c⟩]) j=some (some r)
 | [],j,h=>by cases h
 | x::l,j,h=>by
  rw[List.cons_append,Instr.findNow]
  rw[Instr.findNow] at h
  revert h
  cases Instr.sameNow (.int .i64) (.int .i64 k) x.key with
  | none=>intro h;cases h
  | some b =>
   cases b with
   | true=>intro h;exact h
   | false=>intro h;exact find_push_hit (j:=j+1) h
structure MpE {α:Type}(V:α→Value→Prop)(es:Array MapEntry)(l:List (Int×α)):Prop where
 no:∀ k,lk k l=none→Instr.findNow (.int .i64) (.int .i64 k) es.toList 0=some none
 is:∀ k x,lk k l=some x→∃ i u,Instr.findNow (.int .i64) (.int .i64 k) es.toList 0=some (some (i,u))∧V x u
theorem MpE.nil{α:Type}(V:α→Value→Prop):MpE V #[] []:=⟨fun _ _=>rfl,fun _ _ h=>by cases h⟩
theorem MpE.push{α:Type}{V:α→Value→Prop}{es:Array MapEntry}{l:List (Int×α)}(h:MpE V es l){n:Int}(hn:lk n l=none){x:α}{u:Value}(hu:V x u)(c:Nat):MpE V (es.push ⟨.int .i64 n,u,c⟩) ((n,x)::l):=by
 refine⟨fun k hk=>?_,fun k y hk=>?_⟩
 ·rw[lk] at hk
  by_cases e:n=k
  ·rw[if_pos e] at hk;cases hk
  ·rw[if_neg e] at hk
   rw[Array.toList_push,find_push (h.no k hk),if_neg (Ne.symm e)]
 ·rw[lk] at hk
  by_cases e:n=k
  ·rw[if_pos e] at hk
   cases hk
   subst e
   rw[Array.toList_push,find_push (h.no _ hn),if_pos rfl]
   exact⟨_,_,rfl,hu⟩
  ·rw[if_neg e] at hk
   obtain⟨i,w,h1,h2⟩:=h.is k y hk
   rw[Array.toList_push]
   exact⟨i,w,find_push_hit h1,h2⟩
theorem MpE.imp{α:Type}{V V':α→Value→Prop}{es:Array MapEntry}{l:List (Int×α)}(h:MpE V es l)(hV:∀ x u,V x u→V' x u):MpE V' es l :=
 ⟨h.no,fun k x hk=>by obtain⟨i,u,h1,h2⟩:=h.is k x hk;exact⟨i,u,h1,hV x u h2⟩⟩
def MpAt{α:Type}(w:World)(V:α→Value→Prop)(M:Option Nat)(l:List (Int×α)):Prop :=
 (M=none∧l=[])∨∃ m es n,M=some m∧w.heap[m]?=some (.map es n)∧MpE V es l
section
attribute [local go_sem ↓] Go.wp_at_zero Go.wp_at_succ
section
variable {α:Type} {V:α→Value→Prop} {M:Option Nat} {l:List (Int×α)} {w:World} {T kt et:TypeId} {z:Value}
theorem MpAt.keep{V':α→Value→Prop}{L:List Nat}{w':World}(h:MpAt w V M l)(hf:Fr L w w')(hM:∀ m,M=some m→m ∉ L)(hV:∀ x u,V x u→V' x u):MpAt w' V' M l:=by
 rcases h with h|⟨m,es,n,e,hm,he⟩
 ·exact .inl h
 ·exact .inr ⟨m,es,n,e,hf.keep hm (hM m e),he.imp hV⟩
theorem look_none(hT:Tryz.prog.underlying T=some (.map kt et))(hk:Tryz.prog.underlying kt=some (.int .i64))(h:MpAt w V M l){v:Int}(hn:lk v l=none)(hz:(zeroValue et).run Tryz.prog w = .ok z w):(Instr.lookup T (.map M) (.int .i64 v) true).run Tryz.prog w = .ok (.tuple #[z,.bool false]) w:=by
 rcases h with⟨rfl,rfl⟩| ⟨m,es,n,rfl,hm,he⟩
 ·simp[Instr.lookup,run_underlying hT,run_underlying hk,run_checkKey_int hk _ 9999,Instr.findKey,Instr.findNow,hz,Result.andThen]
 ·exact run_lookup_miss hT hk w m es n hm v z (he.no v hn) hz
theorem look_some(hT:Tryz.prog.underlying T=some (.map kt et))(hk:Tryz.prog.underlying kt=some (.int .i64))(h:MpAt w V M l){v:Int}{x:α}(hn:lk v l=some x):∃ u,V x u∧∀ w':World,Fr [] w w'→(Instr.lookup T (.map M) (.int .i64 v) true).run Tryz.prog w' = .ok (.tuple #[u,.bool true]) w':=by
 rcases h with⟨rfl,rfl⟩| ⟨m,es,n,rfl,hm,he⟩
 ·cases hn
 ·obtain⟨i,u,h1,h2⟩:=he.is v x hn
  exact⟨u,h2,fun w' hf=>run_lookup_hit hT hk w' m es n (hf.keep hm (fun x=>by cases x)) v i u h1⟩
end
theorem zeroT(w:World):(zeroValue 27).run Tryz.prog w = .ok (.agg #[.int .i64 0,.int .i64 0,.slice none 0 0,.slice none 0 0,.int .i64 0]) w:=by kernel_rfl
theorem getT_no{α:Type}{V:α→Value→Prop}{M:Option Nat}{l:List (Int×α)}{w:World}{Q:Nat}(hc:w.cell? ⟨Q,0,none⟩=some (.map M))(hq:Q<w.heap.size)(h:MpAt w V M l){v:Int}(hn:lk v l=none):
  Calls Tryz.prog 60 #[.pointer (some ⟨Q,0,none⟩),.int .i64 v] w fun e w'=>e = .returned (.tuple #[.agg #[.int .i64 0,.int .i64 0,.slice none 0 0,.slice none 0 0,.int .i64 0],.bool false])∧Fr [] w w':=by
 have hk:=look_none Tryz.underlying48 Tryz.underlying3 (h.keep ((Fr.refl [] w).alloc (.cells #[.int .i64 0,.int .i64 0,.slice none 0 0,.slice none 0 0,.int .i64 0] 27)) (fun _ _ x=>by cases x) (fun _ _ x=>x)) hn (zeroT _)
 have HF:=Lib.hid (Fr.refl [] w)
 clear h hn
 go_enter Tryz.func60,Tryz.ntmps60
 go_wp2_with fail
 refine bodyPost_ret (v:=.tuple #[.agg #[.int .i64 0,.int .i64 0,.slice none 0 0,.slice none 0 0,.int .i64 0],.bool false]) ?_ rfl ?_
 ·simp[results,Tryz.f60,go_sem]
 ·exact⟨rfl,by(repeat(first|with_reducible refine Fr.setCell ?_ (.inr (by first|simp;done|(simp;omega))) _|with_reducible refine Fr.alloc ?_ _|with_reducible refine Fr.drew ?_|with_reducible exact HF.out))⟩
theorem getT_is{M:Option Nat}{w:World}{Q:Nat}(hc:w.cell? ⟨Q,0,none⟩=some (.map M))(hq:Q<w.heap.size){v:Int}{a b r:Int}{A B:Option Addr}{n m c d:Nat}(h:∀ w':World,Fr [] w w'→(Instr.lookup 48 (.map M) (.int .i64 v) true).run Tryz.prog w' = .ok (.tuple #[.agg #[.int .i64 a,.int .i64 b,.slice A n c,.slice B m d,.int .i64 r],.bool true]) w'):
  Calls Tryz.prog 60 #[.pointer (some ⟨Q,0,none⟩),.int .i64 v] w fun e w'=>e = .returned (.tuple #[.agg #[.int .i64 a,.int .i64 b,.slice A n c,.slice B m d,.int .i64 r],.bool true])∧Fr [] w w':=by
 have hk:=h _ ((Fr.refl [] w).alloc (.cells #[.int .i64 0,.int .i64 0,.slice none 0 0,.slice none 0 0,.int .i64 0] 27))
 have HF:=Lib.hid (Fr.refl [] w)
 clear h
 go_enter Tryz.func60,Tryz.ntmps60
 go_wp2_with fail
 refine bodyPost_ret (v:=.tuple #[.agg #[.int .i64 a,.int .i64 b,.slice A n c,.slice B m d,.int .i64 r],.bool true]) ?_ rfl ?_
 ·simp[results,Tryz.f60,go_sem]
 ·exact⟨rfl,by(repeat(first|with_reducible refine Fr.setCell ?_ (.inr (by first|simp;done|(simp;omega))) _|with_reducible refine Fr.alloc ?_ _|with_reducible refine Fr.drew ?_|with_reducible exact HF.out))⟩
theorem zeroP(w:World):(zeroValue 136).run Tryz.prog w = .ok (.agg #[.int .i64 0,.int .i64 0]) w:=by kernel_rfl
theorem getP_no{α:Type}{V:α→Value→Prop}{M:Option Nat}{l:List (Int×α)}{w:World}{Q:Nat}(hc:w.cell? ⟨Q,1,none⟩=some (.map M))(hq:Q<w.heap.size)(h:MpAt w V M l){v:Int}(hn:lk v l=none):
  Calls Tryz.prog 93 #[.pointer (some ⟨Q,1,none⟩),.int .i64 v] w fun e w'=>e = .returned (.tuple #[.agg #[.int .i64 0,.int .i64 0],.bool false])∧Fr [] w w':=by
 have hk:=look_none Tryz.underlying51 Tryz.underlying3 (h.keep ((Fr.refl [] w).alloc (.cells #[.int .i64 0,.int .i64 0] 136)) (fun _ _ x=>by cases x) (fun _ _ x=>x)) hn (zeroP _)
 have HF:=Lib.hid (Fr.refl [] w)
 clear h hn
 go_enter Tryz.func93,Tryz.ntmps93
 go_wp2_with fail
 refine bodyPost_ret (v:=.tuple #[.agg #[.int .i64 0,.int .i64 0],.bool false]) ?_ rfl ?_
 ·simp[results,Tryz.f93,go_sem]
 ·exact⟨rfl,by(repeat(first|with_reducible refine Fr.setCell ?_ (.inr (by first|simp;done|(simp;omega))) _|with_reducible refine Fr.alloc ?_ _|with_reducible refine Fr.drew ?_|with_reducible exact HF.out))⟩
theorem getP_is{M:Option Nat}{w:World}{Q:Nat}(hc:w.cell? ⟨Q,1,none⟩=some (.map M))(hq:Q<w.heap.size){v:Int}{a b:Int}(h:∀ w':World,Fr [] w w'→(Instr.lookup 51 (.map M) (.int .i64 v) true).run Tryz.prog w' = .ok (.tuple #[.agg #[.int .i64 a,.int .i64 b],.bool true]) w'):
  Calls Tryz.prog 93 #[.pointer (some ⟨Q,1,none⟩),.int .i64 v] w fun e w'=>e = .returned (.tuple #[.agg #[.int .i64 a,.int .i64 b],.bool true])∧Fr [] w w':=by
 have hk:=h _ ((Fr.refl [] w).alloc (.cells #[.int .i64 0,.int .i64 0] 136))
 have HF:=Lib.hid (Fr.refl [] w)
 clear h
 go_enter Tryz.func93,Tryz.ntmps93
 go_wp2_with fail
 refine bodyPost_ret (v:=.tuple #[.agg #[.int .i64 a,.int .i64 b],.bool true]) ?_ rfl ?_
 ·simp[results,Tryz.f93,go_sem]
 ·exact⟨rfl,by(repeat(first|with_reducible refine Fr.setCell ?_ (.inr (by first|simp;done|(simp;omega))) _|with_reducible refine Fr.alloc ?_ _|with_reducible refine Fr.drew ?_|with_reducible exact HF.out))⟩
theorem zeroR(w:World):(zeroValue 25).run Tryz.prog w = .ok (.agg #[.slice none 0 0,.int .i64 0]) w:=by kernel_rfl
theorem getR_no{α:Type}{V:α→Value→Prop}{M:Option Nat}{l:List (Int×α)}{w:World}{Q:Nat}(hc:w.cell? ⟨Q,2,none⟩=some (.map M))(hq:Q<w.heap.size)(h:MpAt w V M l){v:Int}(hn:lk v l=none):
  Calls Tryz.prog 72 #[.pointer (some ⟨Q,2,none⟩),.int .i64 v] w fun e w'=>e = .returned (.tuple #[.agg #[.slice none 0 0,.int .i64 0],.bool false])∧Fr [] w w':=by
 have hk:=look_none Tryz.underlying54 Tryz.underlying3 (h.keep ((Fr.refl [] w).alloc (.cells #[.slice none 0 0,.int .i64 0] 25)) (fun _ _ x=>by cases x) (fun _ _ x=>x)) hn (zeroR _)
 have HF:=Lib.hid (Fr.refl [] w)
 clear h hn
 go_enter Tryz.func72,Tryz.ntmps72
 go_wp2_with fail
 refine bodyPost_ret (v:=.tuple #[.agg #[.slice none 0 0,.int .i64 0],.bool false]) ?_ rfl ?_
 ·simp[results,Tryz.f72,go_sem]
 ·exact⟨rfl,by(repeat(first|with_reducible refine Fr.setCell ?_ (.inr (by first|simp;done|(simp;omega))) _|with_reducible refine Fr.alloc ?_ _|with_reducible refine Fr.drew ?_|with_reducible exact HF.out))⟩
theorem getR_is{M:Option Nat}{w:World}{Q:Nat}(hc:w.cell? ⟨Q,2,none⟩=some (.map M))(hq:Q<w.heap.size){v:Int}{r:Int}{B:Option Addr}{m d:Nat}(h:∀ w':World,Fr [] w w'→(Instr.lookup 54 (.map M) (.int .i64 v) true).run Tryz.prog w' = .ok (.tuple #[.agg #[.slice B m d,.int .i64 r],.bool true]) w'):
  Calls Tryz.prog 72 #[.pointer (some ⟨Q,2,none⟩),.int .i64 v] w fun e w'=>e = .returned (.tuple #[.agg #[.slice B m d,.int .i64 r],.bool true])∧Fr [] w w':=by
 have hk:=h _ ((Fr.refl [] w).alloc (.cells #[.slice none 0 0,.int .i64 0] 25))
 have HF:=Lib.hid (Fr.refl [] w)
 clear h
 go_enter Tryz.func72,Tryz.ntmps72
 go_wp2_with fail
 refine bodyPost_ret (v:=.tuple #[.agg #[.slice B m d,.int .i64 r],.bool true]) ?_ rfl ?_
 ·simp[results,Tryz.f72,go_sem]
 ·exact⟨rfl,by(repeat(first|with_reducible refine Fr.setCell ?_ (.inr (by first|simp;done|(simp;omega))) _|with_reducible refine Fr.alloc ?_ _|with_reducible refine Fr.drew ?_|with_reducible exact HF.out))⟩
def mapW(x:World)(E:Nat)(o:Obj):World:={ x with heap:=x.heap.setIfInBounds E o }
theorem mapW_fr(x:World)(E:Nat)(o:Obj):Fr [E] x (mapW x E o):=⟨rfl,rfl,rfl,by simp[mapW],fun k hk hn=>by
 have:¬ E=k:=fun e=>hn (by simp[e])
 simp[mapW,Array.getElem?_setIfInBounds,this]⟩
theorem mapW_at{x:World}{E:Nat}(o:Obj)(h:E<x.heap.size):(mapW x E o).heap[E]?=some o:=by simp[mapW,h]
theorem map_put{T kt et:TypeId}(hT:Tryz.prog.underlying T=some (.map kt et))(hk:Tryz.prog.underlying kt=some (.int .i64)){x:World}{E:Nat}{es:Array MapEntry}{n:Nat}{v:Int}(u:Value)(hb:x.heap[E]?=some (.map es n))(hf:Instr.findNow (.int .i64) (.int .i64 v) es.toList 0=some none):
  (Instr.mapUpdate T (.map (some E)) (.int .i64 v) u).run Tryz.prog x = .ok () (mapW x E (.map (es.push ⟨.int .i64 v,u,n⟩) (n+1))):=by
 simp[Instr.mapUpdate,run_underlying hT,run_underlying hk,MapKept.run_getObj_map hb,MapKept.run_setObj_map _ hb,run_checkKey_int hk _ 9999,Instr.findKey,hf,Result.andThen]
 rfl
theorem set_same{cs:Array Value}{o:Nat}{v:Value}(h:cs[o]?=some v):cs.setIfInBounds o v=cs:=by
 obtain⟨h1,h2⟩:=Array.getElem?_eq_some_iff.1 h
 apply Array.ext
 ·simp
 ·intro i h3 h4
  rw[Array.getElem_setIfInBounds]
  split
  ·rename_i e;subst e;exact h2.symm
  ·rfl
theorem run_make(T:TypeId)(x:World):(Instr.makeMap T none).run Tryz.prog x = .ok (.map (some x.heap.size)) (x.alloc (.map #[] 0)):=rfl
theorem setCell_at{x:World}{Q o:Nat}{cs:Array Value}{T:TypeId}(h:x.heap[Q]?=some (.cells cs T (0,0)))(v:Value):(x.setCell ⟨Q,o,none⟩ v).heap[Q]?=some (.cells (cs.setIfInBounds o v) T (0,0)):=by
 simp[World.setCell,Array.getElem?_modify,h]
theorem mapNilT(w:World):(Go.binOp .eql 48 (.map none) (.map none)).run Tryz.prog w = .ok (.bool true) w:=by kernel_rfl
theorem mapIsT(m:Nat)(w:World):(Go.binOp .eql 48 (.map (some m)) (.map none)).run Tryz.prog w = .ok (.bool false) w:=by kernel_rfl
theorem setT_any{α:Type}{V:α→Value→Prop}{M:Option Nat}{l:List (Int×α)}{w:World}{Q:Nat}{cs:Array Value}(hb:w.heap[Q]?=some (.cells cs 58 (0,0)))(hc:cs[0]?=some (.map M))(h:MpAt w V M l){v:Int}(hn:lk v l=none){t:α}{a b r:Int}{A B:Option Addr}{n m c d:Nat}(ht:V t (.agg #[.int .i64 a,.int .i64 b,.slice A n c,.slice B m d,.int .i64 r])):
  Calls Tryz.prog 62 #[.pointer (some ⟨Q,0,none⟩),.int .i64 v,.agg #[.int .i64 a,.int .i64 b,.slice A n c,.slice B m d,.int .i64 r]] w fun e w'=>e = .returned (.tuple #[])∧∃ m' es n',(M=some m'∨M=none∧w.heap.size≤m')∧w'.heap[Q]?=some (.cells (cs.setIfInBounds 0 (.map (some m'))) 58 (0,0))∧w'.heap[m']?=some (.map es n')∧MpE V es ((v,t)::l)∧Fr (Q::M.toList) w w':=by
 have hQ:=lt_of_heap hb
 have hQn:¬ Q=w.heap.size:=by omega
 have q0:w.cell? ⟨Q,0,none⟩=some (.map M):=(cell_of hb _).trans hc
 have q1:=frozen_of hb 0
 rcases h with⟨rfl,rfl⟩| ⟨mm,es,nn,rfl,hm,he⟩
 ·have hss:(w.setCell ⟨Q,0,none⟩ (.map (some (w.heap.size+1)))).heap.size=w.heap.size:=by simp[World.setCell]
  have gz:=heap_old (heap_old (setCell_at (o:=0) hb (.map (some (w.heap.size+1)))) (.cells #[.int .i64 a,.int .i64 b,.slice A n c,.slice B m d,.int .i64 r] 27)) (.map #[] 0)
  have bz:=heap_old (heap_new (w.setCell ⟨Q,0,none⟩ (.map (some (w.heap.size+1)))) (.cells #[.int .i64 a,.int .i64 b,.slice A n c,.slice B m d,.int .i64 r] 27)) (.map #[] 0)
  have mz:=heap_new ((w.setCell ⟨Q,0,none⟩ (.map (some (w.heap.size+1)))).alloc (.cells #[.int .i64 a,.int .i64 b,.slice A n c,.slice B m d,.int .i64 r] 27)) (.map #[] 0)
  have fz:=((((Fr.refl [Q] w).setCell (p:=⟨Q,0,none⟩) (.inl (by simp)) (.map (some (w.heap.size+1)))).alloc (.cells #[.int .i64 a,.int .i64 b,.slice A n c,.slice B m d,.int .i64 r] 27)).alloc (.map #[] 0))
  rw[hss] at bz
  rw[World.size_alloc,hss] at mz
  have hcm:=mapNilT (w.alloc (.cells #[.int .i64 a,.int .i64 b,.slice A n c,.slice B m d,.int .i64 r] 27))
  have hmk:=run_make 48 (w.alloc (.cells #[.int .i64 a,.int .i64 b,.slice A n c,.slice B m d,.int .i64 r] 27))
  rw[World.size_alloc] at hmk
  have HC:Hid ((cs.setIfInBounds 0 (.map (some (w.heap.size+1))))[0]?=some (.map (some (w.heap.size+1)))):=Lib.hid (by
   have:=(Array.getElem?_eq_some_iff.1 hc).1
   simp[this])
  have GZ:=Lib.hid gz
  have BZ:=Lib.hid bz
  have MZ:=Lib.hid mz
  have FZ:=Lib.hid fz
  have HT:=Lib.hid ht
  have HNN:=Lib.hid hn
  clear gz bz mz fz hb hc ht hn hss
  go_enter Tryz.func62,Tryz.ntmps62
  go_wp2_with fail
  clear hcm hmk
  generalize ((w.setCell ⟨Q,0,none⟩ (.map (some (w.heap.size+1)))).alloc (.cells #[.int .i64 a,.int .i64 b,.slice A n c,.slice B m d,.int .i64 r] 27)).alloc (.map #[] 0)=Z at *
  have hp:=map_put (x:=Z.drew) Tryz.underlying48 Tryz.underlying3 (.agg #[.int .i64 a,.int .i64 b,.slice A n c,.slice B m d,.int .i64 r]) MZ.out (MpE.nil V |>.no v HNN.out)
  have k0:Z.cell? ⟨Q,0,none⟩=some (.map (some (w.heap.size+1))):=(cell_of GZ.out _).trans HC.out
  have BB:=BZ.out
  have b0:=cell_of BB 0
  have b1:=cell_of BB 1
  have b2:=cell_of BB 2
  have b3:=cell_of BB 3
  have b4:=cell_of BB 4
  have l0:=lt_of_heap GZ.out
  have l1:=lt_of_heap BB
  clear BB q0 q1
  go_region
  go_end0
  have FF:=FZ.out.drew.step (mapW_fr Z.drew (w.heap.size+1) (.map #[⟨.int .i64 v,.agg #[.int .i64 a,.int .i64 b,.slice A n c,.slice B m d,.int .i64 r],0⟩] 1)) (fun x hx => .inr (by simp at hx;omega))
  exact⟨rfl,w.heap.size+1,_,_,.inr ⟨by first|rfl|trivial,by omega⟩,(mapW_fr Z.drew (w.heap.size+1) _).keep GZ.out (by simp;omega),mapW_at _ (lt_of_heap MZ.out),(MpE.nil V).push HNN.out HT.out 0,FF⟩
 ·have hmQ:¬ mm=Q:=fun e=>by rw[e,hb] at hm;cases hm
  have hmw:=lt_of_heap hm
  have gz:=heap_old hb (.cells #[.int .i64 a,.int .i64 b,.slice A n c,.slice B m d,.int .i64 r] 27)
  have bz:=heap_new w (.cells #[.int .i64 a,.int .i64 b,.slice A n c,.slice B m d,.int .i64 r] 27)
  have mz:=heap_old hm (.cells #[.int .i64 a,.int .i64 b,.slice A n c,.slice B m d,.int .i64 r] 27)
  have fz:=(Fr.refl [] w).alloc (.cells #[.int .i64 a,.int .i64 b,.slice A n c,.slice B m d,.int .i64 r] 27)
  have hcm:=mapIsT mm (w.alloc (.cells #[.int .i64 a,.int .i64 b,.slice A n c,.slice B m d,.int .i64 r] 27))
  have HS:Hid (cs.setIfInBounds 0 (.map (some mm))=cs):=Lib.hid (set_same hc)
  have HC:=Lib.hid hc
  have GZ:=Lib.hid gz
  have BZ:=Lib.hid bz
  have MZ:=Lib.hid mz
  have FZ:=Lib.hid fz
  have HT:=Lib.hid ht
  have HNN:=Lib.hid hn
  have HE:=Lib.hid he
  clear gz bz mz fz hb hc ht hn he hm
  go_enter Tryz.func62,Tryz.ntmps62
  go_wp2_with fail
  clear hcm
  generalize w.alloc (.cells #[.int .i64 a,.int .i64 b,.slice A n c,.slice B m d,.int .i64 r] 27)=Z at *
  have hp:=map_put (x:=Z.drew) Tryz.underlying48 Tryz.underlying3 (.agg #[.int .i64 a,.int .i64 b,.slice A n c,.slice B m d,.int .i64 r]) MZ.out (HE.out.no v HNN.out)
  have k0:Z.cell? ⟨Q,0,none⟩=some (.map (some mm)):=(cell_of GZ.out _).trans HC.out
  have BB:=BZ.out
  have b0:=cell_of BB 0
  have b1:=cell_of BB 1
  have b2:=cell_of BB 2
  have b3:=cell_of BB 3
  have b4:=cell_of BB 4
  have l0:=lt_of_heap GZ.out
  have l1:=lt_of_heap BB
  clear BB q0 q1
  go_region
  go_end0
  have FF:=(FZ.out.drew.mono (fun x hx=>by cases hx)).step (L:=[Q,mm]) (mapW_fr Z.drew mm (.map (es.push ⟨.int .i64 v,.agg #[.int .i64 a,.int .i64 b,.slice A n c,.slice B m d,.int .i64 r],nn⟩) (nn+1))) (fun x hx => .inl (by simp at hx;simp[hx]))
  exact⟨rfl,mm,_,_,.inl rfl,by rw[HS.out];exact(mapW_fr Z.drew mm _).keep GZ.out (by simp;omega),mapW_at _ (lt_of_heap MZ.out),HE.out.push HNN.out HT.out nn,FF⟩
theorem mapNilP(w:World):(Go.binOp .eql 51 (.map none) (.map none)).run Tryz.prog w = .ok (.bool true) w:=by kernel_rfl
theorem mapIsP(m:Nat)(w:World):(Go.binOp .eql 51 (.map (some m)) (.map none)).run Tryz.prog w = .ok (.bool false) w:=by kernel_rfl
theorem setP_any{α:Type}{V:α→Value→Prop}{M:Option Nat}{l:List (Int×α)}{w:World}{Q:Nat}{cs:Array Value}(hb:w.heap[Q]?=some (.cells cs 58 (0,0)))(hc:cs[1]?=some (.map M))(h:MpAt w V M l){v:Int}(hn:lk v l=none){t:α}{a b:Int}(ht:V t (.agg #[.int .i64 a,.int .i64 b])):
  Calls Tryz.prog 116 #[.pointer (some ⟨Q,1,none⟩),.int .i64 v,.agg #[.int .i64 a,.int .i64 b]] w fun e w'=>e = .returned (.tuple #[])∧∃ m' es n',(M=some m'∨M=none∧w.heap.size≤m')∧w'.heap[Q]?=some (.cells (cs.setIfInBounds 1 (.map (some m'))) 58 (0,0))∧w'.heap[m']?=some (.map es n')∧MpE V es ((v,t)::l)∧Fr (Q::M.toList) w w':=by
 have hQ:=lt_of_heap hb
 have hQn:¬ Q=w.heap.size:=by omega
 have q0:w.cell? ⟨Q,1,none⟩=some (.map M):=(cell_of hb _).trans hc
 have q1:=frozen_of hb 1
 rcases h with⟨rfl,rfl⟩| ⟨mm,es,nn,rfl,hm,he⟩
 ·have hss:(w.setCell ⟨Q,1,none⟩ (.map (some (w.heap.size+1)))).heap.size=w.heap.size:=by simp[World.setCell]
  have gz:=heap_old (heap_old (setCell_at (o:=1) hb (.map (some (w.heap.size+1)))) (.cells #[.int .i64 a,.int .i64 b] 136)) (.map #[] 0)
  have bz:=heap_old (heap_new (w.setCell ⟨Q,1,none⟩ (.map (some (w.heap.size+1)))) (.cells #[.int .i64 a,.int .i64 b] 136)) (.map #[] 0)
  have mz:=heap_new ((w.setCell ⟨Q,1,none⟩ (.map (some (w.heap.size+1)))).alloc (.cells #[.int .i64 a,.int .i64 b] 136)) (.map #[] 0)
  have fz:=((((Fr.refl [Q] w).setCell (p:=⟨Q,1,none⟩) (.inl (by simp)) (.map (some (w.heap.size+1)))).alloc (.cells #[.int .i64 a,.int .i64 b] 136)).alloc (.map #[] 0))
  rw[hss] at bz
  rw[World.size_alloc,hss] at mz
  have hcm:=mapNilP (w.alloc (.cells #[.int .i64 a,.int .i64 b] 136))
  have hmk:=run_make 51 (w.alloc (.cells #[.int .i64 a,.int .i64 b] 136))
  rw[World.size_alloc] at hmk
  have HC:Hid ((cs.setIfInBounds 1 (.map (some (w.heap.size+1))))[1]?=some (.map (some (w.heap.size+1)))):=Lib.hid (by
   have:=(Array.getElem?_eq_some_iff.1 hc).1
   simp[this])
  have GZ:=Lib.hid gz
  have BZ:=Lib.hid bz
  have MZ:=Lib.hid mz
  have FZ:=Lib.hid fz
  have HT:=Lib.hid ht
  have HNN:=Lib.hid hn
  clear gz bz mz fz hb hc ht hn hss
  go_enter Tryz.func116,Tryz.ntmps116
  go_wp2_with fail
  clear hcm hmk
  generalize ((w.setCell ⟨Q,1,none⟩ (.map (some (w.heap.size+1)))).alloc (.cells #[.int .i64 a,.int .i64 b] 136)).alloc (.map #[] 0)=Z at *
  have hp:=map_put (x:=Z.drew) Tryz.underlying51 Tryz.underlying3 (.agg #[.int .i64 a,.int .i64 b]) MZ.out (MpE.nil V |>.no v HNN.out)
  have k0:Z.cell? ⟨Q,1,none⟩=some (.map (some (w.heap.size+1))):=(cell_of GZ.out _).trans HC.out
  have BB:=BZ.out
  have b0:=cell_of BB 0
  have b1:=cell_of BB 1
  have b2:=cell_of BB 2
  have b3:=cell_of BB 3
  have b4:=cell_of BB 4
  have l0:=lt_of_heap GZ.out
  have l1:=lt_of_heap BB
  clear BB q0 q1
  go_region
  go_end0
  have FF:=FZ.out.drew.step (mapW_fr Z.drew (w.heap.size+1) (.map #[⟨.int .i64 v,.agg #[.int .i64 a,.int .i64 b],0⟩] 1)) (fun x hx => .inr (by simp at hx;omega))
  exact⟨rfl,w.heap.size+1,_,_,.inr ⟨by first|rfl|trivial,by omega⟩,(mapW_fr Z.drew (w.heap.size+1) _).keep GZ.out (by simp;omega),mapW_at _ (lt_of_heap MZ.out),(MpE.nil V).push HNN.out HT.out 0,FF⟩
 ·have hmQ:¬ mm=Q:=fun e=>by rw[e,hb] at hm;cases hm
  have hmw:=lt_of_heap hm
  have gz:=heap_old hb (.cells #[.int .i64 a,.int .i64 b] 136)
  have bz:=heap_new w (.cells #[.int .i64 a,.int .i64 b] 136)
  have mz:=heap_old hm (.cells #[.int .i64 a,.int .i64 b] 136)
  have fz:=(Fr.refl [] w).alloc (.cells #[.int .i64 a,.int .i64 b] 136)
  have hcm:=mapIsP mm (w.alloc (.cells #[.int .i64 a,.int .i64 b] 136))
  have HS:Hid (cs.setIfInBounds 1 (.map (some mm))=cs):=Lib.hid (set_same hc)
  have HC:=Lib.hid hc
  have GZ:=Lib.hid gz
  have BZ:=Lib.hid bz
  have MZ:=Lib.hid mz
  have FZ:=Lib.hid fz
  have HT:=Lib.hid ht
  have HNN:=Lib.hid hn
  have HE:=Lib.hid he
  clear gz bz mz fz hb hc ht hn he hm
  go_enter Tryz.func116,Tryz.ntmps116
  go_wp2_with fail
  clear hcm
  generalize w.alloc (.cells #[.int .i64 a,.int .i64 b] 136)=Z at *
  have hp:=map_put (x:=Z.drew) Tryz.underlying51 Tryz.underlying3 (.agg #[.int .i64 a,.int .i64 b]) MZ.out (HE.out.no v HNN.out)
  have k0:Z.cell? ⟨Q,1,none⟩=some (.map (some mm)):=(cell_of GZ.out _).trans HC.out
  have BB:=BZ.out
  have b0:=cell_of BB 0
  have b1:=cell_of BB 1
  have b2:=cell_of BB 2
  have b3:=cell_of BB 3
  have b4:=cell_of BB 4
  have l0:=lt_of_heap GZ.out
  have l1:=lt_of_heap BB
  clear BB q0 q1
  go_region
  go_end0
  have FF:=(FZ.out.drew.mono (fun x hx=>by cases hx)).step (L:=[Q,mm]) (mapW_fr Z.drew mm (.map (es.push ⟨.int .i64 v,.agg #[.int .i64 a,.int .i64 b],nn⟩) (nn+1))) (fun x hx => .inl (by simp at hx;simp[hx]))
  exact⟨rfl,mm,_,_,.inl rfl,by rw[HS.out];exact(mapW_fr Z.drew mm _).keep GZ.out (by simp;omega),mapW_at _ (lt_of_heap MZ.out),HE.out.push HNN.out HT.out nn,FF⟩
theorem mapNilR(w:World):(Go.binOp .eql 54 (.map none) (.map none)).run Tryz.prog w = .ok (.bool true) w:=by kernel_rfl
theorem mapIsR(m:Nat)(w:World):(Go.binOp .eql 54 (.map (some m)) (.map none)).run Tryz.prog w = .ok (.bool false) w:=by kernel_rfl
theorem setR_any{α:Type}{V:α→Value→Prop}{M:Option Nat}{l:List (Int×α)}{w:World}{Q:Nat}{cs:Array Value}(hb:w.heap[Q]?=some (.cells cs 58 (0,0)))(hc:cs[2]?=some (.map M))(h:MpAt w V M l){v:Int}(hn:lk v l=none){t:α}{r:Int}{B:Option Addr}{m d:Nat}(ht:V t (.agg #[.slice B m d,.int .i64 r])):
  Calls Tryz.prog 117 #[.pointer (some ⟨Q,2,none⟩),.int .i64 v,.agg #[.slice B m d,.int .i64 r]] w fun e w'=>e = .returned (.tuple #[])∧∃ m' es n',(M=some m'∨M=none∧w.heap.size≤m')∧w'.heap[Q]?=some (.cells (cs.setIfInBounds 2 (.map (some m'))) 58 (0,0))∧w'.heap[m']?=some (.map es n')∧MpE V es ((v,t)::l)∧Fr (Q::M.toList) w w':=by
 have hQ:=lt_of_heap hb
 have hQn:¬ Q=w.heap.size:=by omega
 have q0:w.cell? ⟨Q,2,none⟩=some (.map M):=(cell_of hb _).trans hc
 have q1:=frozen_of hb 2
 rcases h with⟨rfl,rfl⟩| ⟨mm,es,nn,rfl,hm,he⟩
 ·have hss:(w.setCell ⟨Q,2,none⟩ (.map (some (w.heap.size+1)))).heap.size=w.heap.size:=by simp[World.setCell]
  have gz:=heap_old (heap_old (setCell_at (o:=2) hb (.map (some (w.heap.size+1)))) (.cells #[.slice B m d,.int .i64 r] 25)) (.map #[] 0)
  have bz:=heap_old (heap_new (w.setCell ⟨Q,2,none⟩ (.map (some (w.heap.size+1)))) (.cells #[.slice B m d,.int .i64 r] 25)) (.map #[] 0)
  have mz:=heap_new ((w.setCell ⟨Q,2,none⟩ (.map (some (w.heap.size+1)))).alloc (.cells #[.slice B m d,.int .i64 r] 25)) (.map #[] 0)
  have fz:=((((Fr.refl [Q] w).setCell (p:=⟨Q,2,none⟩) (.inl (by simp)) (.map (some (w.heap.size+1)))).alloc (.cells #[.slice B m d,.int .i64 r] 25)).alloc (.map #[] 0))
  rw[hss] at bz
  rw[World.size_alloc,hss] at mz
  have hcm:=mapNilR (w.alloc (.cells #[.slice B m d,.int .i64 r] 25))
  have hmk:=run_make 54 (w.alloc (.cells #[.slice B m d,.int .i64 r] 25))
  rw[World.size_alloc] at hmk
  have HC:Hid ((cs.setIfInBounds 2 (.map (some (w.heap.size+1))))[2]?=some (.map (some (w.heap.size+1)))):=Lib.hid (by
   have:=(Array.getElem?_eq_some_iff.1 hc).1
   simp[this])
  have GZ:=Lib.hid gz
  have BZ:=Lib.hid bz
  have MZ:=Lib.hid mz
  have FZ:=Lib.hid fz
  have HT:=Lib.hid ht
  have HNN:=Lib.hid hn
  clear gz bz mz fz hb hc ht hn hss
  go_enter Tryz.func117,Tryz.ntmps117
  go_wp2_with fail
  clear hcm hmk
  generalize ((w.setCell ⟨Q,2,none⟩ (.map (some (w.heap.size+1)))).alloc (.cells #[.slice B m d,.int .i64 r] 25)).alloc (.map #[] 0)=Z at *
  have hp:=map_put (x:=Z.drew) Tryz.underlying54 Tryz.underlying3 (.agg #[.slice B m d,.int .i64 r]) MZ.out (MpE.nil V |>.no v HNN.out)
  have k0:Z.cell? ⟨Q,2,none⟩=some (.map (some (w.heap.size+1))):=(cell_of GZ.out _).trans HC.out
  have BB:=BZ.out
  have b0:=cell_of BB 0
  have b1:=cell_of BB 1
  have b2:=cell_of BB 2
  have b3:=cell_of BB 3
  have b4:=cell_of BB 4
  have l0:=lt_of_heap GZ.out
  have l1:=lt_of_heap BB
  clear BB q0 q1
  go_region
  go_end0
  have FF:=FZ.out.drew.step (mapW_fr Z.drew (w.heap.size+1) (.map #[⟨.int .i64 v,.agg #[.slice B m d,.int .i64 r],0⟩] 1)) (fun x hx => .inr (by simp at hx;omega))
  exact⟨rfl,w.heap.size+1,_,_,.inr ⟨by first|rfl|trivial,by omega⟩,(mapW_fr Z.drew (w.heap.size+1) _).keep GZ.out (by simp;omega),mapW_at _ (lt_of_heap MZ.out),(MpE.nil V).push HNN.out HT.out 0,FF⟩
 ·have hmQ:¬ mm=Q:=fun e=>by rw[e,hb] at hm;cases hm
  have hmw:=lt_of_heap hm
  have gz:=heap_old hb (.cells #[.slice B m d,.int .i64 r] 25)
  have bz:=heap_new w (.cells #[.slice B m d,.int .i64 r] 25)
  have mz:=heap_old hm (.cells #[.slice B m d,.int .i64 r] 25)
  have fz:=(Fr.refl [] w).alloc (.cells #[.slice B m d,.int .i64 r] 25)
  have hcm:=mapIsR mm (w.alloc (.cells #[.slice B m d,.int .i64 r] 25))
  have HS:Hid (cs.setIfInBounds 2 (.map (some mm))=cs):=Lib.hid (set_same hc)
  have HC:=Lib.hid hc
  have GZ:=Lib.hid gz
  have BZ:=Lib.hid bz
  have MZ:=Lib.hid mz
  have FZ:=Lib.hid fz
  have HT:=Lib.hid ht
  have HNN:=Lib.hid hn
  have HE:=Lib.hid he
  clear gz bz mz fz hb hc ht hn he hm
  go_enter Tryz.func117,Tryz.ntmps117
  go_wp2_with fail
  clear hcm
  generalize w.alloc (.cells #[.slice B m d,.int .i64 r] 25)=Z at *
  have hp:=map_put (x:=Z.drew) Tryz.underlying54 Tryz.underlying3 (.agg #[.slice B m d,.int .i64 r]) MZ.out (HE.out.no v HNN.out)
  have k0:Z.cell? ⟨Q,2,none⟩=some (.map (some mm)):=(cell_of GZ.out _).trans HC.out
  have BB:=BZ.out
  have b0:=cell_of BB 0
  have b1:=cell_of BB 1
  have b2:=cell_of BB 2
  have b3:=cell_of BB 3
  have b4:=cell_of BB 4
  have l0:=lt_of_heap GZ.out
  have l1:=lt_of_heap BB
  clear BB q0 q1
  go_region
  go_end0
  have FF:=(FZ.out.drew.mono (fun x hx=>by cases hx)).step (L:=[Q,mm]) (mapW_fr Z.drew mm (.map (es.push ⟨.int .i64 v,.agg #[.slice B m d,.int .i64 r],nn⟩) (nn+1))) (fun x hx => .inl (by simp at hx;simp[hx]))
  exact⟨rfl,mm,_,_,.inl rfl,by rw[HS.out];exact(mapW_fr Z.drew mm _).keep GZ.out (by simp;omega),mapW_at _ (lt_of_heap MZ.out),HE.out.push HNN.out HT.out nn,FF⟩
end
structure RawOk (G:Ctx)(R:Raw):Prop where
 ty:∀ v t,lk v R.tys=some t→WfT G t
 pr:∀ p q,lk p R.prs=some q→(q=(0,0)∨q=(1,0)∨(q.1=2∧1≤q.2∧G q.2 = .pr))
 rw_:∀ r q,lk r R.rws=some q→∃ k L,G r = .rw k L∧WfFs G q.1∧RowOk G k (· ∈ L) q.1 q.2
theorem rawOk_nil(G:Ctx):RawOk G ⟨[],[],[]⟩:=⟨fun _ _ h=>(by cases h),fun _ _ h=>(by cases h),fun _ _ h=>(by cases h)⟩
section
variable {G:Ctx} {R:Raw} {s:Sub}
theorem RawOk.le{G':Ctx}(h:RawOk G R)(l:Le G G'):RawOk G' R:=by
 refine⟨fun v t e=>wfT_le l (h.ty v t e),fun p q e=>?_,fun r q e=>?_⟩
 ·rcases h.pr p q e with c|c|⟨c1,c2,c3⟩
  ·exact .inl c
  ·exact .inr (.inl c)
  ·exact .inr (.inr ⟨c1,c2,by rw[l _ (by rw[c3];simp),c3]⟩)
 ·obtain⟨k,L,h1,h2,h3⟩:=h.rw_ r q e
  exact⟨k,L,by rw[l _ (by rw[h1];simp),h1],wfFs_le l h2,h3.le l⟩
theorem head_wf(h:RawOk G R){t y:TyT}(hy:HeadR R t y)(ht:WfT G t):WfT G y:=by
 induction hy with
 | not _=>exact ht
 | free _ _=>exact ht
 | go _ hn _ ih=>exact ih (h.ty _ _ hn)
theorem chain_wf(h:RawOk G R){r e:Int}{l:List Fd}(hl:ChainR R r l e):∀ {k:Int}{C:List UInt8→Prop},EndR G k C r →
  WfFs G l∧(labs l).Nodup∧(∀ f ∈ l,f.lb≠[]∧¬ C f.lb)∧EndR G k (fun x=>C x∨x ∈ labs l) e:=by
 induction hl with
 | stop _=>exact fun he=>⟨trivial,.nil,fun _ h=>(by cases h),he.mono (fun x=>by simp[labs])⟩
 | @go r e q l h0 hn _ ih =>
  intro k C he
  rcases he with c|⟨_,L,hL,hLr,hLC⟩
  ·exact absurd c h0
  obtain⟨k',L',g1,g2,g3,g4,g5⟩:=h.rw_ _ _ hn
  rw[g1] at hL
  cases hL
  obtain⟨i1,i2,i3,i4⟩:=ih g5
  refine⟨wfFs_app g2 i1,?_,fun f hf=>?_,i4.mono (fun x=>?_)⟩
  ·rw[labs_app]
   refine List.nodup_append.2 ⟨ri_nodup g3,i2,fun x hx y hy=>?_⟩
   rintro rfl
   obtain⟨f,hf,e⟩:=labs_mem.1 hy
   exact(i3 f hf).2 (.inr (by rw[e];exact hx))
  ·rcases List.mem_append.1 hf with c|c
   ·exact⟨(g4 f c).1,fun d=>(g4 f c).2.1 ((hLC _).2 d)⟩
   ·exact⟨(i3 f c).1,fun d=>(i3 f c).2 (.inl ((hLC _).2 d))⟩
  ·dsimp only;rw[labs_app,List.mem_append,hLC,or_assoc]
theorem thF_wf(hs:SubWf G s){f:Fd}(h:WfF G f):WfF G (thF s f):=by
 obtain⟨lb,pr,p,t⟩:=f
 have key:(pre s ⟨lb,pr,p,t⟩=(0,0))∨(pre s ⟨lb,pr,p,t⟩=(1,0)∧WfT G t)∨((pre s ⟨lb,pr,p,t⟩).1=2∧1≤(pre s ⟨lb,pr,p,t⟩).2∧G (pre s ⟨lb,pr,p,t⟩).2 = .pr∧WfT G t):=by
  unfold pre
  dsimp only
  rw[WfF] at h
  rcases h with⟨rfl,rfl,rfl⟩| ⟨rfl,rfl,ht⟩| ⟨rfl,h1,h2,ht⟩
  ·exact .inl rfl
  ·exact .inr (.inl ⟨rfl,ht⟩)
  ·rw[if_pos rfl]
   rcases hs.pr p h2 with c|c|⟨c1,c2,c3⟩
   ·exact .inl c
   ·exact .inr (.inl ⟨c,ht⟩)
   ·exact .inr (.inr ⟨c1,c2,c3,ht⟩)
 unfold thF
 rw[WfF]
 rcases key with e|⟨e,ht⟩| ⟨e,h1,h2,ht⟩
 ·rw[e];exact .inl ⟨rfl,rfl,rfl⟩
 ·rw[e];exact .inr (.inl ⟨rfl,rfl,ht⟩)
 ·rw[if_neg (by rw[e];decide)];exact .inr (.inr ⟨e,h1,h2,ht⟩)
theorem labs_th(s:Sub)(l:List Fd):labs (l.map (thF s))=labs l:=by
 rw[labs,labs,List.map_map];rfl
def rowA(s:Sub)(fs l:List Fd)(e:Int):List Fd:=(nrm ((fs++l).map (thF s)) e).1
theorem rowA_nodup(h:RawOk G R){k r e:Int}{C:List UInt8→Prop}{fs l:List Fd}(hl:ChainR R r l e)(hr:RowOk G k C fs r):(labs (fs++l)).Nodup:=by
 obtain⟨_,i2,i3,_⟩:=chain_wf h hl hr.2.2
 rw[labs_app]
 refine List.nodup_append.2 ⟨ri_nodup hr.1,i2,fun x hx y hy=>?_⟩
 rintro rfl
 obtain⟨f,hf,e⟩:=labs_mem.1 hy
 exact(i3 f hf).2 (.inr (by rw[e];exact hx))
theorem rowA_ok(h:RawOk G R)(hs:SubWf G s){k r e:Int}{C:List UInt8→Prop}{fs l:List Fd}(hl:ChainR R r l e)(hw:WfFs G fs)(hr:RowOk G k C fs r):WfFs G (rowA s fs l e)∧RowOk G k C (rowA s fs l e) e:=by
 obtain⟨i1,i2,i3,i4⟩:=chain_wf h hl hr.2.2
 have hn:=rowA_nodup h hl hr
 have hn2:(labs ((fs++l).map (thF s))).Nodup:=by rw[labs_th];exact hn
 have hw2:=wfFs_app hw i1
 rw[wfFs_iff] at hw2
 refine⟨?_,nrm_ri e hn2,fun f hf=>⟨?_,?_,nrm_here hf⟩,?_⟩
 ·rw[wfFs_iff]
  intro f hf
  obtain⟨g,hg,rfl⟩:=List.mem_map.1 (nrm_mem hf)
  exact thF_wf hs (hw2 g hg)
 ·obtain⟨g,hg,rfl⟩:=List.mem_map.1 (nrm_mem hf)
  rw[thF_lb]
  rcases List.mem_append.1 hg with c|c
  ·exact(hr.2.1 g c).1
  ·exact(i3 g c).1
 ·obtain⟨g,hg,rfl⟩:=List.mem_map.1 (nrm_mem hf)
  rw[thF_lb]
  rcases List.mem_append.1 hg with c|c
  ·exact(hr.2.1 g c).2.1
  ·exact fun d=>(i3 g c).2 (.inl d)
 ·by_cases c:e=0
  ·exact .inl c
  ·refine i4.mono (fun x=>?_)
   unfold rowA
   rw[nrm_labs c,labs_th,labs_app,List.mem_append,or_assoc]
theorem rowA_same(h:Rep R s)(hs:SubOk s){r e:Int}{fs l:List Fd}(hl:ChainR R r l e):apFs s (rowA s fs l e)=(apRow s fs r).1∧(apRow s fs r).2=e:=row_same h hs hl
theorem pre_th(hs:SubOk s)(f:Fd):pre s (thF s f)=pre s f:=by
 have:=fix_pre (apF_fix hs f)
 have h1:(apF s f).pr=(pre s f).1:=apF_pr s f
 have h2:(apF s f).p=(pre s f).2:=apF_p s f
 unfold pre at this ⊢
 rw[h1,h2] at this
 exact this
end
section
attribute [local go_sem ↓] Go.wp_at_zero Go.wp_at_succ
section
class Ex where
 ex:Nat→Prop
@[reducible] def Ex.no:Ex:=⟨fun _=>False⟩
class LoB where
 lo:Nat
variable [LoB]
variable [Ex]
def okW(w:World)(b:Nat):Prop:=∃ cs T f,w.heap[b]?=some (.cells cs T f)∧(T=58→b<LoB.lo)∧¬ Ex.ex b
def TyV(w:World)(P:List UInt8→Prop):TyT→Value→Prop:=fun t u=>∃ A c B d,TyAt w (okW w) P t [.int .i64 t.k,.int .i64 t.v,.slice A t.args.length c,.slice B t.fs.length d,.int .i64 t.rest]∧u = .agg #[.int .i64 t.k,.int .i64 t.v,.slice A t.args.length c,.slice B t.fs.length d,.int .i64 t.rest]
def PrV:Int×Int→Value→Prop:=fun q u=>u = .agg #[.int .i64 q.1,.int .i64 q.2]
def RwV(w:World)(P:List UInt8→Prop):List Fd×Int→Value→Prop:=fun q u=>∃ B d,FsAt w (okW w) P (.slice B q.1.length d) q.1∧u = .agg #[.slice B q.1.length d,.int .i64 q.2]
structure SolAt (w:World)(P:List UInt8→Prop)(Q:Nat)(M0 M1 M2:Option Nat)(R:Raw)(m:Int)(ta tb:TyT):Prop where
 blk:∃ A c B d A' c' B' d',w.heap[Q]?=some (.cells #[.map M0,.map M1,.map M2,.int .i64 m,.int .i64 ta.k,.int .i64 ta.v,.slice A ta.args.length c,.slice B ta.fs.length d,.int .i64 ta.rest,.int .i64 tb.k,.int .i64 tb.v,.slice A' tb.args.length c',.slice B' tb.fs.length d',.int .i64 tb.rest] 58 (0,0))∧
  TyAt w (okW w) P ta [.int .i64 ta.k,.int .i64 ta.v,.slice A ta.args.length c,.slice B ta.fs.length d,.int .i64 ta.rest]∧TyAt w (okW w) P tb [.int .i64 tb.k,.int .i64 tb.v,.slice A' tb.args.length c',.slice B' tb.fs.length d',.int .i64 tb.rest]
 t:MpAt w (TyV w P) M0 R.tys
 p:MpAt w PrV M1 R.prs
 r:MpAt w (RwV w P) M2 R.rws
 n0:∀ x,M0=some x→M1≠some x∧M2≠some x
 n1:∀ x,M1=some x→M2≠some x
 hi:LoB.lo≤Q
def solL(Q:Nat)(M0 M1 M2:Option Nat):List Nat:=Q::(M0.toList++M1.toList++M2.toList)
theorem solL_mem{Q k:Nat}{M0 M1 M2:Option Nat}:k ∈ solL Q M0 M1 M2↔k=Q∨M0=some k∨M1=some k∨M2=some k:=by
 cases M0 <;> cases M1 <;> cases M2 <;> simp[solL,eq_comm]
theorem sh_ok{L:List Nat}{w w':World}(hf:Fr L w w')(hL:∀ x ∈ L,¬ okW w x):Sh w w' (okW w) (okW w'):=fun b hb hlt=>by
 have hk:=hf.block b hlt (fun hx=>hL b hx hb)
 obtain⟨cs,T,f,h1,h2⟩:=hb
 exact⟨⟨cs,T,f,hk.trans h1,h2⟩,hk,Nat.lt_of_lt_of_le hlt hf.size⟩
theorem sh0{w w':World}(hf:Fr [] w w'):Sh w w' (okW w) (okW w'):=sh_ok hf (fun x hx=>by cases hx)
theorem TyV.keep{L:List Nat}{w w':World}{P:List UInt8→Prop}(hf:Fr L w w')(hL:∀ x ∈ L,¬ okW w x){t:TyT}{u:Value}(h:TyV w P t u):TyV w' P t u:=by
 obtain⟨A,c,B,d,h1,h2⟩:=h
 exact⟨A,c,B,d,h1.keep (sh_ok hf hL),h2⟩
theorem RwV.keep{L:List Nat}{w w':World}{P:List UInt8→Prop}(hf:Fr L w w')(hL:∀ x ∈ L,¬ okW w x){t:List Fd×Int}{u:Value}(h:RwV w P t u):RwV w' P t u:=by
 obtain⟨B,d,h1,h2⟩:=h
 exact⟨B,d,h1.keep (sh_ok hf hL),h2⟩
section
variable {w w':World} {P:List UInt8→Prop} {Q:Nat} {M0 M1 M2:Option Nat} {R:Raw} {m:Int} {ta tb:TyT}
theorem MpAt.blk{α:Type}{V:α→Value→Prop}{M:Option Nat}{l:List (Int×α)}(h:MpAt w V M l):∀ x,M=some x→∃ es n,w.heap[x]?=some (.map es n):=fun x e=>by
 rcases h with⟨h,_⟩| ⟨y,es,n,h1,h2,_⟩
 ·rw[h] at e;cases e
 ·rw[h1] at e;cases e;exact⟨es,n,h2⟩
theorem SolAt.lt(h:SolAt w P Q M0 M1 M2 R m ta tb):Q<w.heap.size:=by obtain⟨_,_,_,_,_,_,_,_,h,_⟩:=h.blk;exact lt_of_heap h
theorem SolAt.not_ok(h:SolAt w P Q M0 M1 M2 R m ta tb):∀ x ∈ solL Q M0 M1 M2,¬ okW w x∧x<w.heap.size:=fun x hx=>by
 have mp:(∃ es n,w.heap[x]?=some (.map es n))→¬ okW w x∧x<w.heap.size:=fun⟨es,n,e⟩=>⟨fun⟨cs,T,f,k1,k2⟩=>(by rw[e] at k1;cases k1),lt_of_heap e⟩
 rcases solL_mem.1 hx with rfl|e|e|e
 ·obtain⟨_,_,_,_,_,_,_,_,g,_⟩:=h.blk
  exact⟨fun⟨cs,T,f,k1,k2⟩=>(by rw[g] at k1;cases k1;have h1:=k2.1 rfl;have h2:=h.hi;omega),lt_of_heap g⟩
 ·exact mp (h.t.blk x e)
 ·exact mp (h.p.blk x e)
 ·exact mp (h.r.blk x e)
theorem SolAt.apart(h:SolAt w P Q M0 M1 M2 R m ta tb){b:Nat}{cs:Array Value}{T:TypeId}{f:Nat×Nat}(hb:w.heap[b]?=some (.cells cs T f))(hT:T≠58):b ∉ solL Q M0 M1 M2:=fun hx=>by
 rcases solL_mem.1 hx with rfl|e|e|e
 ·obtain⟨_,_,_,_,_,_,_,_,g,_⟩:=h.blk
  rw[g] at hb;cases hb;exact hT rfl
 ·obtain⟨es,n,k⟩:=h.t.blk b e;rw[hb] at k;cases k
 ·obtain⟨es,n,k⟩:=h.p.blk b e;rw[hb] at k;cases k
 ·obtain⟨es,n,k⟩:=h.r.blk b e;rw[hb] at k;cases k
theorem SolAt.notQ(h:SolAt w P Q M0 M1 M2 R m ta tb):M0≠some Q∧M1≠some Q∧M2≠some Q:=by
 obtain⟨_,_,_,_,_,_,_,_,g,_⟩:=h.blk
 refine⟨fun e=>?_,fun e=>?_,fun e=>?_⟩
 ·obtain⟨es,n,k⟩:=h.t.blk Q e;rw[g] at k;cases k
 ·obtain⟨es,n,k⟩:=h.p.blk Q e;rw[g] at k;cases k
 ·obtain⟨es,n,k⟩:=h.r.blk Q e;rw[g] at k;cases k
theorem SolAt.frL{L:List Nat}(h:SolAt w P Q M0 M1 M2 R m ta tb)(hf:Fr L w w')(hL:∀ x ∈ L,¬ okW w x)(hd:∀ x ∈ solL Q M0 M1 M2,x ∉ L):SolAt w' P Q M0 M1 M2 R m ta tb:=by
 obtain⟨A,c,B,d,A',c',B',d',g,g1,g2⟩:=h.blk
 exact⟨⟨A,c,B,d,A',c',B',d',hf.keep g (hd Q (by simp[solL])),g1.keep (sh_ok hf hL),g2.keep (sh_ok hf hL)⟩,
  h.t.keep hf (fun x e=>hd x (solL_mem.2 (.inr (.inl e)))) (fun x u=>TyV.keep hf hL),h.p.keep hf (fun x e=>hd x (solL_mem.2 (.inr (.inr (.inl e))))) (fun x u h=>h),
  h.r.keep hf (fun x e=>hd x (solL_mem.2 (.inr (.inr (.inr e))))) (fun x u=>RwV.keep hf hL),h.n0,h.n1,h.hi⟩
theorem SolAt.fr(h:SolAt w P Q M0 M1 M2 R m ta tb)(hf:Fr [] w w'):SolAt w' P Q M0 M1 M2 R m ta tb:=h.frL hf (fun x hx=>by cases hx) (fun x _ hx=>by cases hx)
theorem SolAt.cells(h:SolAt w P Q M0 M1 M2 R m ta tb):w.cell? ⟨Q,0,none⟩=some (.map M0)∧w.cell? ⟨Q,1,none⟩=some (.map M1)∧w.cell? ⟨Q,2,none⟩=some (.map M2)∧w.cell? ⟨Q,3,none⟩=some (.int .i64 m)∧w.frozen? ⟨Q,3,none⟩=false:=by
 obtain⟨_,_,_,_,_,_,_,_,g,_⟩:=h.blk
 refine⟨?_,?_,?_,?_,frozen_of g _⟩<;> rw[cell_of g] <;> rfl
theorem SolAt.lookT_no(h:SolAt w P Q M0 M1 M2 R m ta tb){v:Int}(hn:lk v R.tys=none)(W:World)(hW:Fr [] w W):Calls Tryz.prog 60 #[.pointer (some ⟨Q,0,none⟩),.int .i64 v] W fun e w'=>e = .returned (.tuple #[.agg #[.int .i64 0,.int .i64 0,.slice none 0 0,.slice none 0 0,.int .i64 0],.bool false])∧Fr [] W w' :=
 getT_no (h.fr hW).cells.1 (h.fr hW).lt (h.fr hW).t hn
theorem SolAt.lookT_is(h:SolAt w P Q M0 M1 M2 R m ta tb){v:Int}{t:TyT}(hn:lk v R.tys=some t):∃ A c B d,TyAt w (okW w) P t [.int .i64 t.k,.int .i64 t.v,.slice A t.args.length c,.slice B t.fs.length d,.int .i64 t.rest]∧∀ W,Fr [] w W→Calls Tryz.prog 60 #[.pointer (some ⟨Q,0,none⟩),.int .i64 v] W fun e w'=>e = .returned (.tuple #[.agg #[.int .i64 t.k,.int .i64 t.v,.slice A t.args.length c,.slice B t.fs.length d,.int .i64 t.rest],.bool true])∧Fr [] W w':=by
 obtain⟨u,⟨A,c,B,d,h1,rfl⟩,h2⟩:=look_some (T:=48) Tryz.underlying48 Tryz.underlying3 h.t hn
 exact⟨A,c,B,d,h1,fun W hW=>getT_is (h.fr hW).cells.1 (h.fr hW).lt (fun w' hf=>h2 w' (hW.trans hf))⟩
theorem SolAt.lookP_no(h:SolAt w P Q M0 M1 M2 R m ta tb){v:Int}(hn:lk v R.prs=none)(W:World)(hW:Fr [] w W):Calls Tryz.prog 93 #[.pointer (some ⟨Q,1,none⟩),.int .i64 v] W fun e w'=>e = .returned (.tuple #[.agg #[.int .i64 0,.int .i64 0],.bool false])∧Fr [] W w' :=
 getP_no (h.fr hW).cells.2.1 (h.fr hW).lt (h.fr hW).p hn
theorem SolAt.lookP_is(h:SolAt w P Q M0 M1 M2 R m ta tb){v:Int}{q:Int×Int}(hn:lk v R.prs=some q)(W:World)(hW:Fr [] w W):Calls Tryz.prog 93 #[.pointer (some ⟨Q,1,none⟩),.int .i64 v] W fun e w'=>e = .returned (.tuple #[.agg #[.int .i64 q.1,.int .i64 q.2],.bool true])∧Fr [] W w':=by
 obtain⟨u,rfl,h2⟩:=look_some (T:=51) Tryz.underlying51 Tryz.underlying3 h.p hn
 exact getP_is (h.fr hW).cells.2.1 (h.fr hW).lt (fun w' hf=>h2 w' (hW.trans hf))
theorem SolAt.lookR_no(h:SolAt w P Q M0 M1 M2 R m ta tb){v:Int}(hn:lk v R.rws=none)(W:World)(hW:Fr [] w W):Calls Tryz.prog 72 #[.pointer (some ⟨Q,2,none⟩),.int .i64 v] W fun e w'=>e = .returned (.tuple #[.agg #[.slice none 0 0,.int .i64 0],.bool false])∧Fr [] W w' :=
 getR_no (h.fr hW).cells.2.2.1 (h.fr hW).lt (h.fr hW).r hn
theorem SolAt.lookR_is(h:SolAt w P Q M0 M1 M2 R m ta tb){v:Int}{q:List Fd×Int}(hn:lk v R.rws=some q):∃ B d,FsAt w (okW w) P (.slice B q.1.length d) q.1∧∀ W,Fr [] w W→Calls Tryz.prog 72 #[.pointer (some ⟨Q,2,none⟩),.int .i64 v] W fun e w'=>e = .returned (.tuple #[.agg #[.slice B q.1.length d,.int .i64 q.2],.bool true])∧Fr [] W w':=by
 obtain⟨u,⟨B,d,h1,rfl⟩,h2⟩:=look_some (T:=54) Tryz.underlying54 Tryz.underlying3 h.r hn
 exact⟨B,d,h1,fun W hW=>getR_is (h.fr hW).cells.2.2.1 (h.fr hW).lt (fun w' hf=>h2 w' (hW.trans hf))⟩
end
end
section
variable [LoB]
variable [Ex]
theorem cells5{x:World}{g:Nat}{a b c d e:Value}{T:TypeId}(h:x.heap[g]?=some (.cells #[a,b,c,d,e] T (0,0))):
  (x.cell? ⟨g,0,none⟩=some a∧x.cell? ⟨g,1,none⟩=some b∧x.cell? ⟨g,2,none⟩=some c∧x.cell? ⟨g,3,none⟩=some d∧x.cell? ⟨g,4,none⟩=some e)∧
  x.frozen? ⟨g,0,none⟩=false∧x.frozen? ⟨g,1,none⟩=false∧x.frozen? ⟨g,2,none⟩=false∧x.frozen? ⟨g,3,none⟩=false∧x.frozen? ⟨g,4,none⟩=false:=by
 refine⟨⟨?_,?_,?_,?_,?_⟩,frozen_of h _,frozen_of h _,frozen_of h _,frozen_of h _,frozen_of h _⟩<;> rw[cell_of h] <;> rfl
def st5(w:World)(B:Nat)(a b c d e:Value):World:=((((w.setCell ⟨B,0,none⟩ a).setCell ⟨B,1,none⟩ b).setCell ⟨B,2,none⟩ c).setCell ⟨B,3,none⟩ d).setCell ⟨B,4,none⟩ e
theorem st5_heap{w:World}{B:Nat}{a0 b0 c0 d0 e0:Value}{T:TypeId}(h:w.heap[B]?=some (.cells #[a0,b0,c0,d0,e0] T (0,0)))(a b c d e:Value):(st5 w B a b c d e).heap[B]?=some (.cells #[a,b,c,d,e] T (0,0)):=by
 simp[st5,World.setCell,Array.getElem?_modify,h]
theorem st5_fr(w:World)(B:Nat)(a b c d e:Value):Fr [B] w (st5 w B a b c d e):=
 (((((Fr.refl [B] w).setCell (p:=⟨B,0,none⟩) (.inl (by simp)) a).setCell (p:=⟨B,1,none⟩) (.inl (by simp)) b).setCell (p:=⟨B,2,none⟩) (.inl (by simp)) c).setCell (p:=⟨B,3,none⟩) (.inl (by simp)) d).setCell (p:=⟨B,4,none⟩) (.inl (by simp)) e
theorem st5_size(w:World)(B:Nat)(a b c d e:Value):(st5 w B a b c d e).heap.size=w.heap.size:=by simp[st5,World.setCell]
def mHd(a:Int→Nat)(R:Raw)(k v:Option Value):Nat:=match k,v with
 | some (.int _ k),some (.int _ v)=>if k=1∧lk v R.tys≠none then a v+1 else 0
 | _,_=>0
theorem HeadR.k{R:Raw}{t y:TyT}(h:HeadR R t y):(t.k≠1∧y=t)∨(t.k=1∧lk t.v R.tys=none∧y=t)∨∃ x,t.k=1∧lk t.v R.tys=some x∧HeadR R x y:=by
 cases h with
 | not h=>exact .inl ⟨h,rfl⟩
 | free h hn=>exact .inr (.inl ⟨h,hn,rfl⟩)
 | go h hn hr=>exact .inr (.inr ⟨_,h,hn,hr⟩)
theorem mHd_lt{R:Raw}{ra rb rc:Int→Nat}(hk:Rk R ra rb rc){z t:TyT}(hn:lk z.v R.tys=some t):mHd ra R (some (.int .i64 t.k)) (some (.int .i64 t.v))<ra z.v+1:=by
 unfold mHd
 dsimp only
 split
 ·rename_i c
  have:=hk.ty z.v t hn c.1 c.2
  omega
 ·omega
theorem sv_head{w W:World}(hW:Fr [] w W){P:List UInt8→Prop}{Q:Nat}{M0 M1 M2:Option Nat}{R:Raw}{m:Int}{ta tb:TyT}{ra rb rc:Int→Nat}(h:SolAt w P Q M0 M1 M2 R m ta tb)(hk:Rk R ra rb rc){t y:TyT}(hy:HeadR R t y){A B:Option Addr}{c d:Nat}
  (ht:TyAt w (okW w) P t [.int .i64 t.k,.int .i64 t.v,.slice A t.args.length c,.slice B t.fs.length d,.int .i64 t.rest]):
  Calls Tryz.prog 44 #[.pointer (some ⟨Q,0,none⟩),.agg #[.int .i64 t.k,.int .i64 t.v,.slice A t.args.length c,.slice B t.fs.length d,.int .i64 t.rest]] W fun e w'=>∃ A' c' B' d',e = .returned (.agg #[.int .i64 y.k,.int .i64 y.v,.slice A' y.args.length c',.slice B' y.fs.length d',.int .i64 y.rest])∧
   TyAt w (okW w) P y [.int .i64 y.k,.int .i64 y.v,.slice A' y.args.length c',.slice B' y.fs.length d',.int .i64 y.rest]∧Fr [] W w':=by
 have HSO:=Lib.hid h
 have HY:=Lib.hid hy
 have HT:=Lib.hid ht
 have HK:=Lib.hid hk
 have hq:Q<W.heap.size:=Nat.lt_of_lt_of_le h.lt hW.size
 have f0:=(Fr.refl [] W).alloc (.cells #[.int .i64 t.k,.int .i64 t.v,.slice A t.args.length c,.slice B t.fs.length d,.int .i64 t.rest] 27)
 have f1:=f0.alloc (.cells #[.int .i64 0,.int .i64 0,.slice none 0 0,.slice none 0 0,.int .i64 0] 27)
 have g0:=heap_old (heap_new W (.cells #[.int .i64 t.k,.int .i64 t.v,.slice A t.args.length c,.slice B t.fs.length d,.int .i64 t.rest] 27)) (.cells #[.int .i64 0,.int .i64 0,.slice none 0 0,.slice none 0 0,.int .i64 0] 27)
 have g1:=heap_new (W.alloc (.cells #[.int .i64 t.k,.int .i64 t.v,.slice A t.args.length c,.slice B t.fs.length d,.int .i64 t.rest] 27)) (.cells #[.int .i64 0,.int .i64 0,.slice none 0 0,.slice none 0 0,.int .i64 0] 27)
 rw[World.size_alloc] at g1
 clear h hy ht hk f0
 go_enter Tryz.func44,Tryz.ntmps44
 go_wp2_with fail
 generalize (W.alloc (.cells #[.int .i64 t.k,.int .i64 t.v,.slice A t.args.length c,.slice B t.fs.length d,.int .i64 t.rest] 27)).alloc (.cells #[.int .i64 0,.int .i64 0,.slice none 0 0,.slice none 0 0,.int .i64 0] 27)=x at *
 go_loopw [] (fun wr=>∃ (z:TyT) (A:Option Addr) (c:Nat) (B:Option Addr) (d:Nat),Hid (wr.heap[W.heap.size]?=some (.cells #[.int .i64 z.k,.int .i64 z.v,.slice A z.args.length c,.slice B z.fs.length d,.int .i64 z.rest] 27 (0,0)))∧
  Hid (wr.heap[W.heap.size+1]?=some (.cells #[.int .i64 0,.int .i64 0,.slice none 0 0,.slice none 0 0,.int .i64 0] 27 (0,0)))∧Hid (TyAt w (okW w) P z [.int .i64 z.k,.int .i64 z.v,.slice A z.args.length c,.slice B z.fs.length d,.int .i64 z.rest])∧Hid (HeadR R z y)∧Hid (Fr [] W wr)) (fun wr=>mHd ra R (wr.cell? ⟨W.heap.size,0,none⟩) (wr.cell? ⟨W.heap.size,1,none⟩))
 case atStart=>exact⟨t,A,c,B,d,Lib.hid g0,Lib.hid g1,HT,HY,Lib.hid f1⟩
 case round =>
  obtain⟨z,A,c,B,d,G0,G1,HZ,HR,HF⟩:=hrel
  clear g0 g1 f1 HT HY
  have g0:=G0.out
  have g1:=G1.out
  obtain⟨⟨l0,l1,l2,l3,l4⟩,z0,z1,z2,z3,z4⟩:=cells5 g0
  obtain⟨⟨u0,u1,u2,u3,u4⟩,y0,y1,y2,y3,y4⟩:=cells5 g1
  have hs0:=lt_of_heap g0
  have hs1:=lt_of_heap g1
  have hqr:Q<wr.heap.size:=by omega
  clear g0 g1
  rcases HR.out.k with⟨hz,rfl⟩| ⟨hz,hn,rfl⟩| ⟨t2,hz,hn,hr2⟩
  ·have c1:(y.k==1)=false:=beq_eq_false_iff_ne.2 hz
   go_wp2_with fail
   refine bodyPost_ret (v:=.agg #[.int .i64 y.k,.int .i64 y.v,.slice A y.args.length c,.slice B y.fs.length d,.int .i64 y.rest]) ?_ rfl ⟨A,c,B,d,rfl,HZ.out,?_⟩
   ·simp[results,Tryz.f44,go_sem,u0,u1,u2,u3,u4]
   ·(repeat(first|with_reducible refine Fr.setCell ?_ (.inr (by first|simp;done|(simp;omega))) _|with_reducible refine Fr.alloc ?_ _|with_reducible refine Fr.drew ?_|with_reducible exact HF.out))
  ·have c1:(y.k==1)=true:=by simp[hz]
   have cG:=fun X hX=>Lib.hid (HSO.out.lookT_no hn X (hW.trans hX))
   go_wp2_with fail
   have n0:¬ W.heap.size=wr.heap.size:=by omega
   have n1:¬ W.heap.size+1=wr.heap.size:=by omega
   have n2:¬ wr.heap.size=W.heap.size:=by omega
   have n3:¬ wr.heap.size=W.heap.size+1:=by omega
   go_region_held3 (fun w'=>w'.cell? ⟨W.heap.size,1,none⟩=some (.int .i64 y.v)) (go_keep) ((first|((with_reducible refine(cG _ (HF.out.drew)).out.mono ?_);rintro e w6 ⟨rfl,f6⟩;have F6:=(Fr.refl [] wr).drew.trans f6;have hG0:=F6.keep G0.out (fun x=>by cases x);have hG1:=F6.keep G1.out (fun x=>by cases x);have kk:=cells5 hG0;have uu:=cells5 hG1;have hs6:=lt_of_heap hG1;have hs7:=lt_of_heap hG0;have n6:¬ W.heap.size=w6.heap.size:=(by omega);have n7:¬ W.heap.size+1=w6.heap.size:=(by omega);have n8:¬ w6.heap.size=W.heap.size:=(by omega);have n9:¬ w6.heap.size=W.heap.size+1:=(by omega))| ((with_reducible refine(cG _ ((HF.out.alloc _).drew)).out.mono ?_);rintro e w6 ⟨rfl,f6⟩;have F6:=((Fr.refl [] wr).alloc _).drew.trans f6;have hG0:=F6.keep G0.out (fun x=>by cases x);have hG1:=F6.keep G1.out (fun x=>by cases x);have kk:=cells5 hG0;have uu:=cells5 hG1;have hs6:=lt_of_heap hG1;have hs7:=lt_of_heap hG0;have n6:¬ W.heap.size=w6.heap.size:=(by omega);have n7:¬ W.heap.size+1=w6.heap.size:=(by omega);have n8:¬ w6.heap.size=W.heap.size:=(by omega);have n9:¬ w6.heap.size=W.heap.size+1:=(by omega);have hG9:=cells5 (f6.keep (heap_new wr _) (fun x=>by cases x)))))
   all_goals
    have FF:=HF.out.trans F6
    clear l0 l1 l2 l3 l4 z0 z1 z2 z3 z4 u0 u1 u2 u3 u4 y0 y1 y2 y3 y4 cG
    go_wp2_with fail
    refine bodyPost_ret (v:=.agg #[.int .i64 y.k,.int .i64 y.v,.slice A y.args.length c,.slice B y.fs.length d,.int .i64 y.rest]) ?_ rfl ⟨A,c,B,d,rfl,HZ.out,?_⟩
    ·simp[results,Tryz.f44,go_sem,uu, *]
    ·(repeat(first|with_reducible refine Fr.setCell ?_ (.inr (by first|simp;done|(simp;omega))) _|with_reducible refine Fr.alloc ?_ _|with_reducible refine Fr.drew ?_|with_reducible exact FF))
  ·have c1:(z.k==1)=true:=by simp[hz]
   obtain⟨A2,e2,B2,d2,hz2,hG⟩:=HSO.out.lookT_is hn
   have cG:=fun X hX=>Lib.hid (hG X (hW.trans hX))
   have HZ2:=Lib.hid hz2
   have HR2:=Lib.hid hr2
   have HMU:Hid (mHd ra R (wr.cell? ⟨W.heap.size,0,none⟩) (wr.cell? ⟨W.heap.size,1,none⟩)=ra z.v+1):=Lib.hid (by rw[l0,l1];unfold mHd;exact if_pos ⟨hz,by rw[hn];simp⟩)
   clear hG hz2 hr2
   have n0:¬ W.heap.size=wr.heap.size:=by omega
   have n1:¬ W.heap.size+1=wr.heap.size:=by omega
   have n2:¬ wr.heap.size=W.heap.size:=by omega
   have n3:¬ wr.heap.size=W.heap.size+1:=by omega
   go_wp2_with fail
   go_region_held3 (fun w'=>w'.cell? ⟨W.heap.size,1,none⟩=some (.int .i64 z.v)) (go_keep) ((first|((with_reducible refine(cG _ (HF.out.drew)).out.mono ?_);rintro e w6 ⟨rfl,f6⟩;have F6:=(Fr.refl [] wr).drew.trans f6;have hG0:=F6.keep G0.out (fun x=>by cases x);have hG1:=F6.keep G1.out (fun x=>by cases x);have kk:=cells5 hG0;have uu:=cells5 hG1;have hs6:=lt_of_heap hG1;have hs7:=lt_of_heap hG0;have n6:¬ W.heap.size=w6.heap.size:=(by omega);have n7:¬ W.heap.size+1=w6.heap.size:=(by omega);have n8:¬ w6.heap.size=W.heap.size:=(by omega);have n9:¬ w6.heap.size=W.heap.size+1:=(by omega))| ((with_reducible refine(cG _ ((HF.out.alloc _).drew)).out.mono ?_);rintro e w6 ⟨rfl,f6⟩;have F6:=((Fr.refl [] wr).alloc _).drew.trans f6;have hG0:=F6.keep G0.out (fun x=>by cases x);have hG1:=F6.keep G1.out (fun x=>by cases x);have kk:=cells5 hG0;have uu:=cells5 hG1;have hs6:=lt_of_heap hG1;have hs7:=lt_of_heap hG0;have n6:¬ W.heap.size=w6.heap.size:=(by omega);have n7:¬ W.heap.size+1=w6.heap.size:=(by omega);have n8:¬ w6.heap.size=W.heap.size:=(by omega);have n9:¬ w6.heap.size=W.heap.size+1:=(by omega);have hG9:=cells5 (f6.keep (heap_new wr _) (fun x=>by cases x)))))
   all_goals
    have FF:=HF.out.trans F6
    clear l0 l1 l2 l3 l4 z0 z1 z2 z3 z4 u0 u1 u2 u3 u4 y0 y1 y2 y3 y4 cG
    go_wp2_with fail
    go_roundw
    case rel=>exact⟨t2,A2,e2,B2,d2,Lib.hid (by(simp[World.setCell,World.alloc,World.drew,Array.getElem?_modify,Array.getElem?_push,hG0,n0,n1,n2,n3,n6,n7,n8,n9])),Lib.hid (by(simp[World.setCell,World.alloc,World.drew,Array.getElem?_modify,Array.getElem?_push,hG1,n0,n1,n2,n3,n6,n7,n8,n9])),HZ2,HR2,Lib.hid (by(repeat(first|with_reducible refine Fr.setCell ?_ (.inr (by first|simp;done|(simp;omega))) _|with_reducible refine Fr.alloc ?_ _|with_reducible refine Fr.drew ?_|with_reducible exact FF)))⟩
    case measure =>
     rw[HMU.out]
     (simp[World.cell?,World.setCell,World.alloc,World.drew,Array.getElem?_modify,Array.getElem?_push,hG0,n0,n1,n2,n3,n6,n7,n8,n9])
     exact mHd_lt HK.out hn
end
section
variable [LoB]
variable [Ex]
def thG(f:Fd)(y:Int×Int):Fd:=⟨f.lb,y.1,y.2,if y.1=0 then .zero else f.t⟩
theorem thG_th{R:Raw}{s:Sub}(h:Rep R s){f:Fd}{y:Int×Int}(hy:ThereR R (f.pr,f.p) y):thG f y=thF s f:=by
 have e:y=pre s f:=hy.end_ h
 rw[e];rfl
theorem cells8{x:World}{B:Nat}{T:TypeId}{a0 a1 a2 a3 a4 a5 a6 a7:Value}(h:x.heap[B]?=some (.cells #[a0,a1,a2,a3,a4,a5,a6,a7] T (0,0))):(x.cell? ⟨B,0,none⟩=some a0∧x.cell? ⟨B,1,none⟩=some a1∧x.cell? ⟨B,2,none⟩=some a2∧x.cell? ⟨B,3,none⟩=some a3∧x.cell? ⟨B,4,none⟩=some a4∧x.cell? ⟨B,5,none⟩=some a5∧x.cell? ⟨B,6,none⟩=some a6∧x.cell? ⟨B,7,none⟩=some a7)∧x.frozen? ⟨B,0,none⟩=false∧x.frozen? ⟨B,1,none⟩=false∧x.frozen? ⟨B,2,none⟩=false∧x.frozen? ⟨B,3,none⟩=false∧x.frozen? ⟨B,4,none⟩=false∧x.frozen? ⟨B,5,none⟩=false∧x.frozen? ⟨B,6,none⟩=false∧x.frozen? ⟨B,7,none⟩=false :=
 ⟨⟨cell_of h 0,cell_of h 1,cell_of h 2,cell_of h 3,cell_of h 4,cell_of h 5,cell_of h 6,cell_of h 7⟩,frozen_of h 0,frozen_of h 1,frozen_of h 2,frozen_of h 3,frozen_of h 4,frozen_of h 5,frozen_of h 6,frozen_of h 7⟩
theorem cells2{x:World}{g:Nat}{a b:Value}{T:TypeId}(h:x.heap[g]?=some (.cells #[a,b] T (0,0))):(x.cell? ⟨g,0,none⟩=some a∧x.cell? ⟨g,1,none⟩=some b)∧x.frozen? ⟨g,0,none⟩=false∧x.frozen? ⟨g,1,none⟩=false:=by
 refine⟨⟨?_,?_⟩,frozen_of h _,frozen_of h _⟩<;> rw[cell_of h] <;> rfl
def mTh(b:Int→Nat)(R:Raw)(k v:Option Value):Nat:=match k,v with
 | some (.int _ k),some (.int _ v)=>if k=2∧lk v R.prs≠none then b v+1 else 0
 | _,_=>0
theorem ThereR.k{R:Raw}{t y:Int×Int}(h:ThereR R t y):(t.1≠2∧y=t)∨(t.1=2∧lk t.2 R.prs=none∧y=t)∨∃ x,t.1=2∧lk t.2 R.prs=some x∧ThereR R x y:=by
 cases h with
 | not h=>exact .inl ⟨h,rfl⟩
 | free h hn=>exact .inr (.inl ⟨h,hn,rfl⟩)
 | go h hn hr=>exact .inr (.inr ⟨_,h,hn,hr⟩)
theorem mTh_lt{R:Raw}{ra rb rc:Int→Nat}(hk:Rk R ra rb rc){p:Int}{q:Int×Int}(hn:lk p R.prs=some q):mTh rb R (some (.int .i64 q.1)) (some (.int .i64 q.2))<rb p+1:=by
 unfold mTh
 dsimp only
 split
 ·rename_i c
  have:=hk.pr p q hn c.1 c.2
  omega
 ·omega
theorem sv_there{w W:World}(hW:Fr [] w W){P:List UInt8→Prop}{Q:Nat}{M0 M1 M2:Option Nat}{R:Raw}{m:Int}{ta tb:TyT}{ra rb rc:Int→Nat}(h:SolAt w P Q M0 M1 M2 R m ta tb)(hk:Rk R ra rb rc){f:Fd}{y:Int×Int}(hy:ThereR R (f.pr,f.p) y){A B:Option Addr}{c d:Nat}
  (ht:TyAt w (okW w) P f.t [.int .i64 f.t.k,.int .i64 f.t.v,.slice A f.t.args.length c,.slice B f.t.fs.length d,.int .i64 f.t.rest]):
  Calls Tryz.prog 71 #[.pointer (some ⟨Q,0,none⟩),.agg #[.string ⟨f.lb.toArray⟩,.int .i64 f.pr,.int .i64 f.p,.int .i64 f.t.k,.int .i64 f.t.v,.slice A f.t.args.length c,.slice B f.t.fs.length d,.int .i64 f.t.rest]] W fun e w'=>∃ A' c' B' d',e = .returned (.agg #[.string ⟨f.lb.toArray⟩,.int .i64 y.1,.int .i64 y.2,.int .i64 (thG f y).t.k,.int .i64 (thG f y).t.v,.slice A' (thG f y).t.args.length c',.slice B' (thG f y).t.fs.length d',.int .i64 (thG f y).t.rest])∧
   TyAt w (okW w) P (thG f y).t [.int .i64 (thG f y).t.k,.int .i64 (thG f y).t.v,.slice A' (thG f y).t.args.length c',.slice B' (thG f y).t.fs.length d',.int .i64 (thG f y).t.rest]∧Fr [] W w':=by
 have HSO:=Lib.hid h
 have HY:=Lib.hid hy
 have HT:=Lib.hid ht
 have HK:=Lib.hid hk
 have hq:Q<W.heap.size:=Nat.lt_of_lt_of_le h.lt hW.size
 have f0:=(Fr.refl [] W).alloc (.cells #[.string ⟨f.lb.toArray⟩,.int .i64 f.pr,.int .i64 f.p,.int .i64 f.t.k,.int .i64 f.t.v,.slice A f.t.args.length c,.slice B f.t.fs.length d,.int .i64 f.t.rest] 44)
 have f1:=f0.alloc (.cells #[.string ⟨#[]⟩,.int .i64 0,.int .i64 0,.int .i64 0,.int .i64 0,.slice none 0 0,.slice none 0 0,.int .i64 0] 44)
 have g0:=heap_old (heap_new W (.cells #[.string ⟨f.lb.toArray⟩,.int .i64 f.pr,.int .i64 f.p,.int .i64 f.t.k,.int .i64 f.t.v,.slice A f.t.args.length c,.slice B f.t.fs.length d,.int .i64 f.t.rest] 44)) (.cells #[.string ⟨#[]⟩,.int .i64 0,.int .i64 0,.int .i64 0,.int .i64 0,.slice none 0 0,.slice none 0 0,.int .i64 0] 44)
 have g1:=heap_new (W.alloc (.cells #[.string ⟨f.lb.toArray⟩,.int .i64 f.pr,.int .i64 f.p,.int .i64 f.t.k,.int .i64 f.t.v,.slice A f.t.args.length c,.slice B f.t.fs.length d,.int .i64 f.t.rest] 44)) (.cells #[.string ⟨#[]⟩,.int .i64 0,.int .i64 0,.int .i64 0,.int .i64 0,.slice none 0 0,.slice none 0 0,.int .i64 0] 44)
 rw[World.size_alloc] at g1
 clear h hy ht hk f0
 go_enter Tryz.func71,Tryz.ntmps71
 go_wp2_with fail
 generalize (W.alloc (.cells #[.string ⟨f.lb.toArray⟩,.int .i64 f.pr,.int .i64 f.p,.int .i64 f.t.k,.int .i64 f.t.v,.slice A f.t.args.length c,.slice B f.t.fs.length d,.int .i64 f.t.rest] 44)).alloc (.cells #[.string ⟨#[]⟩,.int .i64 0,.int .i64 0,.int .i64 0,.int .i64 0,.slice none 0 0,.slice none 0 0,.int .i64 0] 44)=x at *
 go_loopw [] (fun wr=>∃ (q:Int×Int),Hid (wr.heap[W.heap.size]?=some (.cells #[.string ⟨f.lb.toArray⟩,.int .i64 q.1,.int .i64 q.2,.int .i64 f.t.k,.int .i64 f.t.v,.slice A f.t.args.length c,.slice B f.t.fs.length d,.int .i64 f.t.rest] 44 (0,0)))∧
  Hid (wr.heap[W.heap.size+1]?=some (.cells #[.string ⟨#[]⟩,.int .i64 0,.int .i64 0,.int .i64 0,.int .i64 0,.slice none 0 0,.slice none 0 0,.int .i64 0] 44 (0,0)))∧Hid (ThereR R q y)∧Hid (Fr [] W wr)) (fun wr=>mTh rb R (wr.cell? ⟨W.heap.size,1,none⟩) (wr.cell? ⟨W.heap.size,2,none⟩))
 case atStart=>exact⟨(f.pr,f.p),Lib.hid g0,Lib.hid g1,HY,Lib.hid f1⟩
 case round =>
  obtain⟨q,G0,G1,HR,HF⟩:=hrel
  clear g0 g1 f1 HY
  have g0:=G0.out
  have g1:=G1.out
  obtain⟨⟨l0,l1,l2,l3,l4,l5,l6,l7⟩,z0,z1,z2,z3,z4,z5,z6,z7⟩:=cells8 g0
  have uu:=cells8 g1
  have hs0:=lt_of_heap g0
  have hs1:=lt_of_heap g1
  have hqr:Q<wr.heap.size:=by omega
  clear g0 g1
  rcases HR.out.k with⟨hz,rfl⟩| ⟨hz,hn,rfl⟩| ⟨t2,hz,hn,hr2⟩
  ·have c1:(y.1==2)=false:=beq_eq_false_iff_ne.2 hz
   have FF:=HF.out
   by_cases hy0:y.1=0
   ·have c2:(y.1==0)=true:=by simp[hy0]
    clear hz
    go_wp2_with fail
    refine bodyPost_ret (v:=.agg #[.string ⟨f.lb.toArray⟩,.int .i64 y.1,.int .i64 y.2,.int .i64 0,.int .i64 0,.slice none 0 0,.slice none 0 0,.int .i64 0]) ?_ rfl ⟨none,0,none,0,?_,?_,?_⟩
    ·simp[results,Tryz.f71,go_sem,uu, *]
    ·simp[thG, *,TyT.zero,TyT.k,TyT.v,TyT.args,TyT.fs,TyT.rest]
    ·rw[show(thG f y).t=TyT.zero from if_pos hy0];exact .zero _ _ _
    ·(repeat(first|with_reducible refine Fr.setCell ?_ (.inr (by first|simp;done|(simp;omega))) _|with_reducible refine Fr.alloc ?_ _|with_reducible refine Fr.drew ?_|with_reducible exact FF))
   ·have c2:(y.1==0)=false:=beq_eq_false_iff_ne.2 hy0
    go_wp2_with fail
    refine bodyPost_ret (v:=.agg #[.string ⟨f.lb.toArray⟩,.int .i64 y.1,.int .i64 y.2,.int .i64 f.t.k,.int .i64 f.t.v,.slice A f.t.args.length c,.slice B f.t.fs.length d,.int .i64 f.t.rest]) ?_ rfl ⟨A,c,B,d,?_,?_,?_⟩
    ·simp[results,Tryz.f71,go_sem,uu, *]
    ·simp[thG, *,TyT.zero,TyT.k,TyT.v,TyT.args,TyT.fs,TyT.rest]
    ·rw[show(thG f y).t=f.t from if_neg hy0];exact HT.out
    ·(repeat(first|with_reducible refine Fr.setCell ?_ (.inr (by first|simp;done|(simp;omega))) _|with_reducible refine Fr.alloc ?_ _|with_reducible refine Fr.drew ?_|with_reducible exact FF))
  ·have c1:(y.1==2)=true:=by simp[hz]
   have hy0:¬ y.1=0:=by omega
   have c2:(y.1==0)=false:=beq_eq_false_iff_ne.2 hy0
   have cG:=fun X hX=>Lib.hid (HSO.out.lookP_no hn X (hW.trans hX))
   have n0:¬ W.heap.size=wr.heap.size:=by omega
   have n1:¬ W.heap.size+1=wr.heap.size:=by omega
   have n2:¬ wr.heap.size=W.heap.size:=by omega
   have n3:¬ wr.heap.size=W.heap.size+1:=by omega
   go_wp2_with fail
   go_region_held3 (fun w'=>w'.cell? ⟨W.heap.size,2,none⟩=some (.int .i64 y.2)) (go_keep) ((first|((with_reducible refine(cG _ (HF.out.drew)).out.mono ?_);rintro e w6 ⟨rfl,f6⟩;have F6:=(Fr.refl [] wr).drew.trans f6;have hG0:=F6.keep G0.out (fun x=>by cases x);have hG1:=F6.keep G1.out (fun x=>by cases x);have kk:=cells8 hG0;have uu:=cells8 hG1;have hs6:=lt_of_heap hG1;have hs7:=lt_of_heap hG0;have n6:¬ W.heap.size=w6.heap.size:=(by omega);have n7:¬ W.heap.size+1=w6.heap.size:=(by omega);have n8:¬ w6.heap.size=W.heap.size:=(by omega);have n9:¬ w6.heap.size=W.heap.size+1:=(by omega))| ((with_reducible refine(cG _ ((HF.out.alloc _).drew)).out.mono ?_);rintro e w6 ⟨rfl,f6⟩;have F6:=((Fr.refl [] wr).alloc _).drew.trans f6;have hG0:=F6.keep G0.out (fun x=>by cases x);have hG1:=F6.keep G1.out (fun x=>by cases x);have kk:=cells8 hG0;have uu:=cells8 hG1;have hs6:=lt_of_heap hG1;have hs7:=lt_of_heap hG0;have n6:¬ W.heap.size=w6.heap.size:=(by omega);have n7:¬ W.heap.size+1=w6.heap.size:=(by omega);have n8:¬ w6.heap.size=W.heap.size:=(by omega);have n9:¬ w6.heap.size=W.heap.size+1:=(by omega);have hH9:=f6.keep (heap_new wr _) (fun x=>by cases x);have hG9:=cells2 hH9;have hs9:=lt_of_heap hH9)))
   all_goals
    have FF:=HF.out.trans F6
    clear l0 l1 l2 l3 l4 l5 l6 l7 z0 z1 z2 z3 z4 z5 z6 z7 cG
    clear hz
    go_wp2_with fail
    refine bodyPost_ret (v:=.agg #[.string ⟨f.lb.toArray⟩,.int .i64 y.1,.int .i64 y.2,.int .i64 f.t.k,.int .i64 f.t.v,.slice A f.t.args.length c,.slice B f.t.fs.length d,.int .i64 f.t.rest]) ?_ rfl ⟨A,c,B,d,?_,?_,?_⟩
    ·simp[results,Tryz.f71,go_sem,uu, *]
    ·simp[thG, *,TyT.zero,TyT.k,TyT.v,TyT.args,TyT.fs,TyT.rest]
    ·rw[show(thG f y).t=f.t from if_neg hy0];exact HT.out
    ·(repeat(first|with_reducible refine Fr.setCell ?_ (.inr (by first|simp;done|(simp;omega))) _|with_reducible refine Fr.alloc ?_ _|with_reducible refine Fr.drew ?_|with_reducible exact FF))
  ·have c1:(q.1==2)=true:=by simp[hz]
   have cG:=fun X hX=>Lib.hid (HSO.out.lookP_is hn X (hW.trans hX))
   have HMU:Hid (mTh rb R (wr.cell? ⟨W.heap.size,1,none⟩) (wr.cell? ⟨W.heap.size,2,none⟩)=rb q.2+1):=Lib.hid (by rw[l1,l2];unfold mTh;exact if_pos ⟨hz,by rw[hn];simp⟩)
   have HR2:=Lib.hid hr2
   clear hr2 hz
   have n0:¬ W.heap.size=wr.heap.size:=by omega
   have n1:¬ W.heap.size+1=wr.heap.size:=by omega
   have n2:¬ wr.heap.size=W.heap.size:=by omega
   have n3:¬ wr.heap.size=W.heap.size+1:=by omega
   go_wp2_with fail
   go_region_held3 (fun w'=>w'.cell? ⟨W.heap.size,2,none⟩=some (.int .i64 q.2)) (go_keep) ((first|((with_reducible refine(cG _ (HF.out.drew)).out.mono ?_);rintro e w6 ⟨rfl,f6⟩;have F6:=(Fr.refl [] wr).drew.trans f6;have hG0:=F6.keep G0.out (fun x=>by cases x);have hG1:=F6.keep G1.out (fun x=>by cases x);have kk:=cells8 hG0;have uu:=cells8 hG1;have hs6:=lt_of_heap hG1;have hs7:=lt_of_heap hG0;have n6:¬ W.heap.size=w6.heap.size:=(by omega);have n7:¬ W.heap.size+1=w6.heap.size:=(by omega);have n8:¬ w6.heap.size=W.heap.size:=(by omega);have n9:¬ w6.heap.size=W.heap.size+1:=(by omega))| ((with_reducible refine(cG _ ((HF.out.alloc _).drew)).out.mono ?_);rintro e w6 ⟨rfl,f6⟩;have F6:=((Fr.refl [] wr).alloc _).drew.trans f6;have hG0:=F6.keep G0.out (fun x=>by cases x);have hG1:=F6.keep G1.out (fun x=>by cases x);have kk:=cells8 hG0;have uu:=cells8 hG1;have hs6:=lt_of_heap hG1;have hs7:=lt_of_heap hG0;have n6:¬ W.heap.size=w6.heap.size:=(by omega);have n7:¬ W.heap.size+1=w6.heap.size:=(by omega);have n8:¬ w6.heap.size=W.heap.size:=(by omega);have n9:¬ w6.heap.size=W.heap.size+1:=(by omega);have hH9:=f6.keep (heap_new wr _) (fun x=>by cases x);have hG9:=cells2 hH9;have hs9:=lt_of_heap hH9)))
   all_goals
    have FF:=HF.out.trans F6
    clear l0 l1 l2 l3 l4 l5 l6 l7 z0 z1 z2 z3 z4 z5 z6 z7 cG
    go_wp2_with fail
    go_region
    all_goals
     go_wp2_with fail
     go_roundw
     case rel=>exact⟨t2,Lib.hid (by(simp[World.setCell,World.alloc,World.drew,Array.getElem?_modify,Array.getElem?_push,hG0,n0,n1,n2,n3,n6,n7,n8,n9])),Lib.hid (by(simp[World.setCell,World.alloc,World.drew,Array.getElem?_modify,Array.getElem?_push,hG1,n0,n1,n2,n3,n6,n7,n8,n9])),HR2,Lib.hid (by(repeat(first|with_reducible refine Fr.setCell ?_ (.inr (by first|simp;done|(simp;omega))) _|with_reducible refine Fr.alloc ?_ _|with_reducible refine Fr.drew ?_|with_reducible exact FF)))⟩
     case measure =>
      rw[HMU.out]
      (simp[World.cell?,World.setCell,World.alloc,World.drew,Array.getElem?_modify,Array.getElem?_push,hG0,n0,n1,n2,n3,n6,n7,n8,n9])
      exact mTh_lt HK.out hn
end
section
variable [LoB]
variable [Ex]
mutual
/-- parts,all of them -/
def rzT:TyT→Nat
 | .mk _ _ args fs _=>1+rzTs args+rzFs fs
def rzTs:List TyT→Nat
 | []=>0
 | x::l=>rzT x+rzTs l
def rzFs:List Fd→Nat
 | []=>0
 | f::l=>rzF f+rzFs l
def rzF:Fd→Nat
 | ⟨_,_,_,t⟩=>1+rzT t
end
theorem rzTs_at{x:TyT}:∀ {l:List TyT}{i:Nat},l[i]?=some x→rzT x≤rzTs l
 | [],i,h=>by simp at h
 | y::l,0,h=>by simp at h;subst h;rw[rzTs];omega
 | y::l,i+1,h=>by have:=rzTs_at (l:=l) (by simpa using h);rw[rzTs];omega
theorem rzFs_at{f:Fd}:∀ {l:List Fd}{i:Nat},l[i]?=some f→rzT f.t<rzFs l
 | [],i,h=>by simp at h
 | y::l,0,h=>by simp at h;subst h;rw[rzFs,rzF];omega
 | y::l,i+1,h=>by have:=rzFs_at (l:=l) (by simpa using h);rw[rzFs];omega
theorem seenTs_at{x:TyT}{l:List TyT}{i:Nat}(h:l[i]?=some x)(m:Int):seenTs (l.drop i) m=seenTs (l.drop (i+1)) (seenT x m):=by
 have hi:=(List.getElem?_eq_some_iff.1 h).1
 rw[List.drop_eq_getElem_cons hi,seenTs]
 rw[List.getElem?_eq_getElem hi] at h
 cases h;rfl
theorem seenFs_at{f:Fd}{l:List Fd}{i:Nat}(h:l[i]?=some f)(m:Int):seenFs (l.drop i) m=seenFs (l.drop (i+1)) (seenT f.t (max m f.p)):=by
 have hi:=(List.getElem?_eq_some_iff.1 h).1
 rw[List.drop_eq_getElem_cons hi,seenFs]
 rw[List.getElem?_eq_getElem hi] at h
 injection h with h
 rw[h]
 obtain⟨lb,pr,p,t⟩:=f
 rw[seenF]
mutual
/-- no row of parts is too long -/
def LimT:TyT→Prop
 | .mk _ _ args fs _=>args.length≤1099511627776∧fs.length≤1099511627776∧LimTs args∧LimFs fs
def LimTs:List TyT→Prop
 | []=>True
 | x::l=>LimT x∧LimTs l
def LimFs:List Fd→Prop
 | []=>True
 | f::l=>LimF f∧LimFs l
def LimF:Fd→Prop
 | ⟨_,_,_,t⟩=>LimT t
end
theorem limTs_iff:∀ {l:List TyT},LimTs l↔∀ x ∈ l,LimT x
 | []=>by simp[LimTs]
 | x::l=>by simp[LimTs,limTs_iff (l:=l)]
theorem limFs_iff:∀ {l:List Fd},LimFs l↔∀ x ∈ l,LimT x.t
 | []=>by simp[LimFs]
 | ⟨lb,pr,p,t⟩::l=>by simp[LimFs,LimF,limFs_iff (l:=l)]
def Few(P:List UInt8→Prop):Prop:=∀ l:List (List UInt8),l.Nodup→(∀ x ∈ l,P x)→l.length≤1073741824
theorem limT_zero:LimT .zero:=by unfold TyT.zero;rw[LimT];exact⟨by simp,by simp,trivial,trivial⟩
theorem argN_le{k:Int}{n:Nat}(h:argN k=some n):n≤2:=by
 unfold argN at h
 split at h
 ·cases h;omega
 ·split at h
  ·cases h;omega
  ·split at h
   ·cases h;omega
   ·cases h
theorem lim_of{G:Ctx}{w:World}{ok:Nat→Prop}{P:List UInt8→Prop}(hP:Few P){t:TyT}{cs:List Value}(h:TyAt w ok P t cs):WfT G t→LimT t:=by
 induction h with
 | @mk k v args fs rest v2 v3 ca ch ct h2 e2 h3 e3 e4 ih2 ih4 =>
  intro hw
  rw[WfT] at hw
  obtain⟨w1,w2,w3,w4,w5,w6⟩:=hw
  rw[LimT]
  refine⟨by have:=argN_le w1;omega,?_,limTs_iff.2 (fun x hx=>?_),limFs_iff.2 (fun f hf=>?_)⟩
  ·by_cases c:rwd k=true
   ·rw[if_pos c] at w6
    have:=hP (labs fs) (ri_nodup w6.1) (fun x hx=>by
     obtain⟨f,hf,rfl⟩:=labs_mem.1 hx
     obtain⟨i,hi⟩:=List.getElem?_of_mem hf
     exact(e3 i f hi).2)
    simp only[labs,List.length_map] at this
    omega
   ·rw[if_neg c] at w6;rw[w6.1];simp
  ·obtain⟨i,hi⟩:=List.getElem?_of_mem hx
   exact ih2 i x hi ((wfTs_iff G _).1 w4 x hx)
  ·obtain⟨i,hi⟩:=List.getElem?_of_mem hf
   have hwf:=(wfFs_iff G _).1 w5 f hf
   rcases wfF_pre hwf with⟨_,_,h3⟩| ⟨_,_,h3⟩| ⟨_,_,_,h3⟩
   ·rw[h3];exact limT_zero
   ·exact ih4 i f hi h3
   ·exact ih4 i f hi h3
theorem SolAt.most{w:World}{P:List UInt8→Prop}{Q:Nat}{M0 M1 M2:Option Nat}{R:Raw}{m:Int}{ta tb:TyT}(h:SolAt w P Q M0 M1 M2 R m ta tb)(m':Int):SolAt (w.setCell ⟨Q,3,none⟩ (.int .i64 m')) P Q M0 M1 M2 R m' ta tb∧Fr [Q] w (w.setCell ⟨Q,3,none⟩ (.int .i64 m')):=by
 have hf:Fr [Q] w (w.setCell ⟨Q,3,none⟩ (.int .i64 m')):=(Fr.refl [Q] w).setCell (p:=⟨Q,3,none⟩) (.inl (by simp)) _
 have hno:∀ x ∈ [Q],¬ okW w x:=fun x hx=>by simp at hx;subst hx;exact(h.not_ok x (by simp[solL])).1
 obtain⟨A,c,B,d,A',c',B',d',g,g1,g2⟩:=h.blk
 obtain⟨q0,q1,q2⟩:=h.notQ
 refine⟨⟨⟨A,c,B,d,A',c',B',d',?_,g1.keep (sh_ok hf hno),g2.keep (sh_ok hf hno)⟩,h.t.keep hf (fun x e hx=>q0 (by simp at hx;rw[← hx];exact e)) (fun x u=>TyV.keep hf hno),h.p.keep hf (fun x e hx=>q1 (by simp at hx;rw[← hx];exact e)) (fun x u h=>h),h.r.keep hf (fun x e hx=>q2 (by simp at hx;rw[← hx];exact e)) (fun x u=>RwV.keep hf hno),h.n0,h.n1,h.hi⟩,hf⟩
 simp[World.setCell,Array.getElem?_modify,g]
def SNC(N:Nat):Prop:=∀ (w W:World)(P:List UInt8→Prop)(Q:Nat)(M0 M1 M2:Option Nat)(R:Raw)(m:Int)(ta tb t:TyT)(A B:Option Addr)(c d:Nat),rzT t<N→Fr [Q] w W→¬ okW w Q→SolAt W P Q M0 M1 M2 R m ta tb→LimT t →
  TyAt w (okW w) P t [.int .i64 t.k,.int .i64 t.v,.slice A t.args.length c,.slice B t.fs.length d,.int .i64 t.rest] →
  Calls Tryz.prog 30 #[.pointer (some ⟨Q,0,none⟩),.agg #[.int .i64 t.k,.int .i64 t.v,.slice A t.args.length c,.slice B t.fs.length d,.int .i64 t.rest]] W fun e w'=>e = .returned (.tuple #[])∧SolAt w' P Q M0 M1 M2 R (seenT t m) ta tb∧Fr [Q] W w'
theorem seen_step(N:Nat)(ih:SNC N):SNC (N+1):=by
 intro w W P Q M0 M1 M2 R m ta tb t A B c d hN hW hQo hS hL ht
 obtain⟨k,v,args,fs,rest⟩:=t
 rw[rzT] at hN
 rw[LimT] at hL
 simp only[TyT.k,TyT.v,TyT.args,TyT.fs,TyT.rest] at ht ⊢
 obtain⟨hL1,hL2,hL3,hL4⟩:=hL
 obtain⟨v2,v3,he,har,hfs⟩:=TyAt.iff.1 ht
 cases he
 have HAR:=Lib.hid har
 have HFS:=Lib.hid hfs
 have IH:=Lib.hid ih
 have HL3:=Lib.hid (limTs_iff.1 hL3)
 have HL4:=Lib.hid (limFs_iff.1 hL4)
 have HN:=Lib.hid hN
 have HQO:=Lib.hid hQo
 have hno:∀ x ∈ [Q],¬ okW w x:=fun x hx=>by simp at hx;subst hx;exact hQo
 have HNO:=Lib.hid hno
 have hq:=hS.lt
 have f0:=(Fr.refl [Q] W).alloc (.cells #[.int .i64 k,.int .i64 v,.slice A args.length c,.slice B fs.length d,.int .i64 rest] 27)
 have g0:=heap_new W (.cells #[.int .i64 k,.int .i64 v,.slice A args.length c,.slice B fs.length d,.int .i64 rest] 27)
 have hS0:=hS.fr ((Fr.refl [] W).alloc (.cells #[.int .i64 k,.int .i64 v,.slice A args.length c,.slice B fs.length d,.int .i64 rest] 27))
 have HW:=Lib.hid (hW.trans f0)
 obtain⟨c0,c1,c2,c3,z3⟩:=hS0.cells
 obtain⟨⟨l0,l1,l2,l3,l4⟩,_⟩:=cells5 g0
 have hst:=hS0.most (max (max m v) rest)
 have HS1:=Lib.hid hst.1
 have HF1:=Lib.hid (f0.trans hst.2)
 have HW1:=Lib.hid (hW.trans (f0.trans hst.2))
 have HG0:=Lib.hid (hst.2.keep g0 (by simp;omega))
 have hR:seenT (.mk k v args fs rest) m=seenFs fs (seenTs args (max (max m v) rest)):=by rw[seenT]
 rw[hR]
 clear hN ih har hfs hL3 hL4 hQo hS ht hS0 hst hR f0 hW hno
 go_enter Tryz.func30,Tryz.ntmps30
 go_wp2_with fail
 generalize W.alloc (.cells #[.int .i64 k,.int .i64 v,.slice A args.length c,.slice B fs.length d,.int .i64 rest] 27)=x at *
 generalize hT:W.heap.size=T at *
 have hqx:Q<x.heap.size:=by have:=lt_of_heap g0;omega
 go_region
 have hmx:∀ a b:Int,(if a<b then b else a)=max a b:=fun a b=>by split <;> omega
 simp only[hmx]
 have HS2:=Lib.hid (HS1.out.fr ((Fr.refl [] _).drew))
 have HF2:=Lib.hid HF1.out.drew
 have HW2:=Lib.hid HW1.out.drew
 have HG2:Hid ((x.setCell ⟨Q,3,none⟩ (.int .i64 (max (max m v) rest))).drew.heap[T]?=_):=Lib.hid HG0.out
 generalize (x.setCell ⟨Q,3,none⟩ (.int .i64 (max (max m v) rest))).drew=y at *
 clear HS1 HF1 HW1 HG0 HW l0 l1 l2 l3 l4 g0 c0 c1 c2 c3 z3 hqx
 generalize hm1:max (max m v) rest=m1 at *
 obtain⟨⟨l0,l1,l2,l3,l4⟩,_⟩:=cells5 HG2.out
 have hTs:=lt_of_heap HG2.out
 go_wp2_with fail
 go_loopw [24] (fun iv wr=>∃ (i:Nat) (mi:Int),iv = .int .i64 i∧i≤args.length∧Hid (seenTs (args.drop i) mi=seenTs args m1)∧Hid (wr.heap[T]?=some (.cells #[.int .i64 k,.int .i64 v,.slice A args.length c,.slice B fs.length d,.int .i64 rest] 27 (0,0)))∧Hid (SolAt wr P Q M0 M1 M2 R mi ta tb)∧Hid (Fr [Q] W wr)∧Hid (Fr [Q] w wr)) (fun iv wr=>args.length-(intOf iv).toNat)
 case atStart=>exact⟨0,m1,rfl,by omega,Lib.hid rfl,HG2,HS2,HF2,HW2⟩
 case round =>
  obtain⟨i,mi,rfl,hi,HM,HG,HS,HF,HW⟩:=hrel
  clear HG2 HS2 HF2 HW2 l0 l1 l2 l3 l4
  have q1:(0:Int)≤(i:Int):=by omega
  have hgs:=lt_of_heap HG.out
  by_cases hlt:i<args.length
  ·have hx:args[i]?=some args[i]:=List.getElem?_eq_getElem hlt
   generalize args[i]=z at hx
   have q2:(i:Int)<(args.length:Int):=by omega
   obtain⟨g,og,rfl,hok,hg,B2,d2,D2,e2,hty,x0,x1,x2,x3,x4⟩:=HAR.out.at hx
   have hnq:g ∉ [Q]:=fun hx=>HNO.out g hx hok
   replace x0:=(HW.out.cell (p:=⟨g,og+i * 5,none⟩) hg hnq).trans x0
   replace x1:=(HW.out.cell (p:=⟨g,og+i * 5+1,none⟩) hg hnq).trans x1
   replace x2:=(HW.out.cell (p:=⟨g,og+i * 5+2,none⟩) hg hnq).trans x2
   replace x3:=(HW.out.cell (p:=⟨g,og+i * 5+3,none⟩) hg hnq).trans x3
   replace x4:=(HW.out.cell (p:=⟨g,og+i * 5+4,none⟩) hg hnq).trans x4
   have hgw:g<wr.heap.size:=Nat.lt_of_lt_of_le hg HW.out.size
   have hzN:rzT z<N:=by have:=rzTs_at hx;have:=HN.out;omega
   have f7:=(Fr.refl [Q] wr).alloc (.cells #[.int .i64 z.k,.int .i64 z.v,.slice B2 z.args.length d2,.slice D2 z.fs.length e2,.int .i64 z.rest] 27)
   have cS:=Lib.hid (IH.out w _ P Q M0 M1 M2 R mi ta tb z B2 D2 d2 e2 hzN (HW.out.trans f7) HQO.out (HS.out.fr ((Fr.refl [] wr).alloc (.cells #[.int .i64 z.k,.int .i64 z.v,.slice B2 z.args.length d2,.slice D2 z.fs.length e2,.int .i64 z.rest] 27))) (HL3.out z (List.mem_of_getElem? hx)) hty)
   have HJ:=Lib.hid ((seenTs_at hx mi).symm.trans HM.out)
   have F7:=Lib.hid f7
   clear hx hty hnq f7 hok
   go_wp2_with fail
   refine cS.out.mono ?_
   rintro e w6 ⟨rfl,hS6,f6⟩
   have hG6:=(F7.out.trans f6).keep HG.out (by simp;omega)
   have HS6:=Lib.hid hS6
   have HF6:=Lib.hid (HF.out.trans (F7.out.trans f6))
   have HW6:=Lib.hid (HW.out.trans (F7.out.trans f6))
   have HG6:=Lib.hid hG6
   clear hS6 f6 hG6 cS
   go_wp2_with fail
   go_roundw
   case rel=>exact⟨i+1,_,by first|rfl|simp|go_num,by omega,HJ,HG6,HS6,HF6,HW6⟩
   case measure=>simp[intOf];omega
  ·have hz:args.drop i=[]:=List.drop_eq_nil_of_le (by omega)
   have hmi:mi=seenTs args m1:=by have:=HM.out;rw[hz,seenTs] at this;exact this
   have q2:¬ (i:Int)<(args.length:Int):=by omega
   obtain⟨⟨l0,l1,l2,l3,l4⟩,_⟩:=cells5 HG.out
   have HMI:=Lib.hid hmi
   clear HM hz hmi
   go_wp2_with fail
   have hw5:∃ w5,w5=wr:=⟨_,rfl⟩
   obtain⟨w5,hw5⟩:=hw5
   subst hw5
   go_loopw [36] (fun iv wr=>∃ (i:Nat) (mj:Int),iv = .int .i64 i∧i≤fs.length∧Hid (seenFs (fs.drop i) mj=seenFs fs mi)∧Hid (SolAt wr P Q M0 M1 M2 R mj ta tb)∧Hid (Fr [Q] W wr)∧Hid (Fr [Q] w wr)) (fun iv wr=>fs.length-(intOf iv).toNat)
   case atStart=>exact⟨0,mi,rfl,by omega,Lib.hid rfl,HS,HF,HW⟩
   case round =>
    obtain⟨i,mj,rfl,hi,HM,HS,HF,HW⟩:=hrel
    clear l0 l1 l2 l3 l4
    have q1:(0:Int)≤(i:Int):=by omega
    by_cases hlt:i<fs.length
    ·have hx:fs[i]?=some fs[i]:=List.getElem?_eq_getElem hlt
     generalize fs[i]=f at hx
     have q2:(i:Int)<(fs.length:Int):=by omega
     obtain⟨g,og,rfl,hok,hg,Bf,df,Df,ef,hty,x0,x1,x2,x3,x4,x5,x6,x7⟩:=HFS.out.at hx
     have hnq:g ∉ [Q]:=fun hx=>HNO.out g hx hok
     replace x0:=(HW.out.cell (p:=⟨g,og+i * 8,none⟩) hg hnq).trans x0
     replace x1:=(HW.out.cell (p:=⟨g,og+i * 8+1,none⟩) hg hnq).trans x1
     replace x2:=(HW.out.cell (p:=⟨g,og+i * 8+2,none⟩) hg hnq).trans x2
     replace x3:=(HW.out.cell (p:=⟨g,og+i * 8+3,none⟩) hg hnq).trans x3
     replace x4:=(HW.out.cell (p:=⟨g,og+i * 8+4,none⟩) hg hnq).trans x4
     replace x5:=(HW.out.cell (p:=⟨g,og+i * 8+5,none⟩) hg hnq).trans x5
     replace x6:=(HW.out.cell (p:=⟨g,og+i * 8+6,none⟩) hg hnq).trans x6
     replace x7:=(HW.out.cell (p:=⟨g,og+i * 8+7,none⟩) hg hnq).trans x7
     have hgw:g<wr.heap.size:=Nat.lt_of_lt_of_le hg HW.out.size
     have hzN:rzT f.t<N:=by have:=rzFs_at hx;have:=HN.out;omega
     have f7:=(Fr.refl [Q] wr).alloc (.cells #[.string ⟨f.lb.toArray⟩,.int .i64 f.pr,.int .i64 f.p,.int .i64 f.t.k,.int .i64 f.t.v,.slice Bf f.t.args.length df,.slice Df f.t.fs.length ef,.int .i64 f.t.rest] 44)
     have p7:=heap_new wr (.cells #[.string ⟨f.lb.toArray⟩,.int .i64 f.pr,.int .i64 f.p,.int .i64 f.t.k,.int .i64 f.t.v,.slice Bf f.t.args.length df,.slice Df f.t.fs.length ef,.int .i64 f.t.rest] 44)
     have hS7:=HS.out.fr ((Fr.refl [] wr).alloc (.cells #[.string ⟨f.lb.toArray⟩,.int .i64 f.pr,.int .i64 f.p,.int .i64 f.t.k,.int .i64 f.t.v,.slice Bf f.t.args.length df,.slice Df f.t.fs.length ef,.int .i64 f.t.rest] 44))
     have hst:=hS7.most (max mj f.p)
     obtain⟨c0,c1,c2,c3,z3⟩:=hS7.cells
     obtain⟨⟨e0,e1,e2,e3,e4,e5,e6,e7⟩,_⟩:=cells8 p7
     have hq7:=hS7.lt
     have hC7:=lt_of_heap p7
     have hqC:¬ Q=wr.heap.size:=by have:=HS.out.lt;omega
     have hqC2:¬ wr.heap.size=Q:=by have:=HS.out.lt;omega
     have HST:=Lib.hid (hst.1.fr ((Fr.refl [] _).drew))
     have F7:=Lib.hid (f7.trans hst.2.drew)
     have HP8:=Lib.hid (hst.2.drew.keep p7 (by simp;omega))
     have HJ:=Lib.hid ((seenFs_at hx mj).symm.trans HM.out)
     have HLF:=Lib.hid (HL4.out f (List.mem_of_getElem? hx))
     have HTY:=Lib.hid hty
     clear hx hty hnq f7 hok hst hS7
     go_wp2_with fail
     generalize wr.alloc (.cells #[.string ⟨f.lb.toArray⟩,.int .i64 f.pr,.int .i64 f.p,.int .i64 f.t.k,.int .i64 f.t.v,.slice Bf f.t.args.length df,.slice Df f.t.fs.length ef,.int .i64 f.t.rest] 44)=w7 at *
     clear x0 x1 x2 x3 x4 x5 x6 x7
     go_region
     try simp only[hmx]
     generalize (w7.setCell ⟨Q,3,none⟩ (.int .i64 (max mj f.p))).drew=y at *
     obtain⟨⟨d0,d1,d2,d3,d4,d5,d6,d7⟩,_⟩:=cells8 HP8.out
     have cS:=Lib.hid (IH.out w y P Q M0 M1 M2 R _ ta tb f.t Bf Df df ef hzN (HW.out.trans F7.out) HQO.out HST.out HLF.out HTY.out)
     clear c0 c1 c2 c3 z3 e0 e1 e2 e3 e4 e5 e6 e7 p7
     go_wp2_with fail
     refine cS.out.mono ?_
     rintro e w6 ⟨rfl,hS6,f6⟩
     have HS6:=Lib.hid hS6
     have HF6:=Lib.hid (HF.out.trans (F7.out.trans f6))
     have HW6:=Lib.hid (HW.out.trans (F7.out.trans f6))
     clear hS6 f6 cS
     go_wp2_with fail
     go_roundw
     case rel=>exact⟨i+1,_,by first|rfl|simp|go_num,by omega,HJ,HS6,HF6,HW6⟩
     case measure=>simp[intOf];omega
    ·have hz:fs.drop i=[]:=List.drop_eq_nil_of_le (by omega)
     have hmj:mj=seenFs fs mi:=by have:=HM.out;rw[hz,seenFs] at this;exact this
     have q2:¬ (i:Int)<(fs.length:Int):=by omega
     have HMJ:=Lib.hid hmj
     clear hmj
     go_wp2_with fail
     go_end0
     exact⟨rfl,by rw[← HMI.out,← HMJ.out];exact HS.out,HF.out⟩
theorem seen_all:∀ N,SNC N
 | 0=>by intro _ _ _ _ _ _ _ _ _ _ _ _ _ _ _ _ h;exact absurd h (Nat.not_lt_zero _)
 | N+1=>seen_step N (seen_all N)
end
theorem infoInt:(Tryz.prog.info? 3).map (fun i=>(i.zero,i.size,i.bytes))=some (some (.int .i64 0),1,8):=by kernel_rfl
def encI(n:Int):Value:=.int .i64 n
structure AppI (base:Nat)(w:World)(A:Option Addr)(c:Nat)(l:List Int):Prop where
 own:w.ownsRow 0 3 1 (.slice A l.length c) l.length (l.map encI)
 lo:∀ g,(Value.slice A l.length c).ownBlock=some g→base≤g∧g<w.heap.size
def IntsAt(w:World)(A:Option Addr)(l:List Int):Prop:=l=[]∨∃ g,A=some ⟨g,0,none⟩∧g<w.heap.size∧∀ (i:Nat)(x:Int),l[i]?=some x→w.cell? ⟨g,i,none⟩=some (.int .i64 x)
section
variable {base:Nat} {w w':World} {A:Option Addr} {c:Nat} {l:List Int}
theorem AppI.nil(base:Nat)(w:World):AppI base w none 0 []:=⟨⟨rfl,.inl ⟨rfl,rfl⟩⟩,fun g h=>(by cases h)⟩
theorem AppI.keep{L:List Nat}(h:AppI base w A c l)(hf:Fr L w w')(hL:∀ x ∈ L,x<base):AppI base w' A c l :=
 ⟨ownsRow_fr h.own hf (fun g e hg=>by have:=hL g hg;have:=(h.lo g e).1;omega),fun g e=>⟨(h.lo g e).1,Nat.lt_of_lt_of_le (h.lo g e).2 hf.size⟩⟩
theorem AppI.blk(h:AppI base w A c l):∀ x ∈ (Value.slice A l.length c).ownBlock.toList,base≤x∧x<w.heap.size:=fun x hx=>h.lo x (by simpa using hx)
theorem AppI.app(h:AppI base w A c l){x:Int}{A':Option Addr}{c':Nat}(hb:base≤w.heap.size)(hown:w'.ownsRow 0 3 1 (.slice A' (l.length+1) c') (l.length+1) (l.map encI++[encI x]))(hfp:FpOf (.slice A l.length c) (.slice A' (l.length+1) c') w.heap.size):AppI base w' A' c' (l++[x]):=by
 have e1:(l++[x]).length=l.length+1:=by simp
 refine⟨by rw[e1,List.map_append];exact hown,fun g e=>?_⟩
 rw[e1] at e
 refine⟨?_,?_⟩
 ·rcases hfp g e with h1|h1
  ·exact(h.lo g h1).1
  ·omega
 ·rcases hown.2 with⟨hv,_⟩| ⟨g',cap,cur,hv,_,h2,_⟩
  ·rw[hv] at e;cases e
  ·rw[hv] at e;cases e;exact lt_of_heap h2
theorem AppI.ints(h:AppI base w A c l):IntsAt w A l:=by
 rcases h.own.2 with⟨hv,hn⟩| ⟨g,cap,cur,hv,_,h2,h3,_,h5,h6⟩
 ·exact .inl (List.length_eq_zero_iff.1 hn)
 ·injection hv with h1 h1' h1''
  subst h1;subst h1''
  refine .inr ⟨g,rfl,(h.lo g rfl).2,fun i x hi=>?_⟩
  have hl:=(List.getElem?_eq_some_iff.1 hi).1
  rw[World.ownsRow.cellAt h.own i (by omega)]
  rw[List.getElem?_map,hi];rfl
theorem AppI.below(h:AppI base w A c l){w0:World}(hb:Below base w0 w)(hg:w.grownBy w' (Value.slice A l.length c).ownBlock)(h0:base≤w.heap.size):Below base w0 w':=hb.grown hg h0 (fun k e=>(h.lo k e).1)
theorem IntsAt.keep{L:List Nat}(h:IntsAt w A l)(hf:Fr L w w')(hL:∀ g,A=some ⟨g,0,none⟩→g ∉ L):IntsAt w' A l:=by
 rcases h with h|⟨g,h1,h2,h3⟩
 ·exact .inl h
 ·exact .inr ⟨g,h1,Nat.lt_of_lt_of_le h2 hf.size,fun i x hi=>(hf.cell (p:=⟨g,i,none⟩) h2 (hL g h1)).trans (h3 i x hi)⟩
theorem IntsAt.fr(h:IntsAt w A l)(hf:Fr [] w w'):IntsAt w' A l:=h.keep hf (fun _ _ x=>by cases x)
theorem IntsAt.at(h:IntsAt w A l){i:Nat}{x:Int}(hi:l[i]?=some x):∃ g,A=some ⟨g,0,none⟩∧g<w.heap.size∧w.cell? ⟨g,i,none⟩=some (.int .i64 x):=by
 rcases h with h|⟨g,h1,h2,h3⟩
 ·subst h;simp at hi
 ·exact⟨g,h1,h2,h3 i x hi⟩
end
theorem own_sl{w:World}{T:TypeId}{size n:Nat}{v:Value}{xs:List Value}(h:w.ownsRow 0 T size v n xs):∃ A c,v = .slice A n c:=by
 rcases h.2 with⟨rfl,rfl⟩| ⟨g,cap,cur,rfl,_⟩
 ·exact⟨_,_,rfl⟩
 ·exact⟨_,_,rfl⟩
def oB(v:Value):List Nat:=v.ownBlock.toList
theorem oB_mem{v:Value}{x:Nat}:x ∈ oB v↔v.ownBlock=some x:=by unfold oB;cases v.ownBlock <;> simp[eq_comm]
structure IStp (base:Nat)(W:World)(X:Option Addr)(cx:Nat)(l:List Int)(w':World)(X':Option Addr)(cx':Nat)(l':List Int):Prop where
 app:AppI base w' X' cx' l'
 fp:FpOf (.slice X l.length cx) (.slice X' l'.length cx') W.heap.size
 fr:Fr (oB (.slice X l.length cx)) W w'
section
variable {base:Nat} {W w1 w2:World} {X X1 X2:Option Addr} {cx c1 c2:Nat} {l l1 l2:List Int}
theorem IStp.refl(h:AppI base W X cx l):IStp base W X cx l W X cx l:=⟨h,fun g e => .inl e,Fr.refl _ _⟩
theorem IStp.trans(h:IStp base W X cx l w1 X1 c1 l1)(k:IStp base w1 X1 c1 l1 w2 X2 c2 l2):IStp base W X cx l w2 X2 c2 l2:=by
 refine⟨k.app,fun g e=>?_,h.fr.step k.fr (fun x hx=>?_)⟩
 ·rcases k.fp g e with c|c
  ·exact h.fp g c
  ·exact .inr (Nat.le_trans h.fr.size c)
 ·exact(h.fp x (oB_mem.1 hx)).imp (fun c=>oB_mem.2 c) id
theorem IStp.fr0(h:IStp base W X cx l w1 X1 c1 l1)(hf:Fr [] w1 w2):IStp base W X cx l w2 X1 c1 l1:=⟨h.app.keep hf (fun x hx=>by cases hx),h.fp,h.fr.trans0 hf⟩
theorem IStp.below(h:IStp base W X cx l w1 X1 c1 l1)(ha:AppI base W X cx l)(hb:base≤W.heap.size):Below base W w1:=h.fr.below hb (fun x hx=>(ha.lo x (oB_mem.1 hx)).1)
theorem IStp.keep(h:IStp base W X cx l w1 X1 c1 l1){T:Nat}{o:Obj}(ho:W.heap[T]?=some o)(hn:∀ g,(Value.slice X l.length cx).ownBlock=some g→g<T):w1.heap[T]?=some o:=h.fr.keep ho (fun hx=>by have:=hn T (oB_mem.1 hx);omega)
end
theorem shB{base:Nat}{w w':World}(h:Below base w w'):Sh w w' (· < base) (· < base):=fun b hb hlt=>⟨hb,h.block b hb,Nat.lt_of_lt_of_le hlt h.size⟩
theorem szTs_at{x:TyT}:∀ {l:List TyT}{i:Nat},l[i]?=some x→szT x+szTs (l.take i)≤szTs l
 | [],i,h=>by simp at h
 | y::l,0,h=>by simp at h;subst h;simp[szTs]
 | y::l,i+1,h=>by
  have:=szTs_at (l:=l) (by simpa using h)
  rw[List.take_succ_cons,szTs,szTs];omega
theorem szFs_at{x:Fd}:∀ {l:List Fd}{i:Nat},l[i]?=some x→szF x+szFs (l.take i)≤szFs l
 | [],i,h=>by simp at h
 | y::l,0,h=>by simp at h;subst h;simp[szFs]
 | y::l,i+1,h=>by
  have:=szFs_at (l:=l) (by simpa using h)
  rw[List.take_succ_cons,szFs,szFs];omega
theorem szTs_len:∀ l:List TyT,l.length≤szTs l
 | []=>Nat.le_refl _
 | x::l=>by have h1:=szTs_len l;obtain⟨k,v,a,f,r⟩:=x;rw[szTs,szT,List.length_cons];omega
theorem szFs_len:∀ l:List Fd,l.length≤szFs l
 | []=>Nat.le_refl _
 | x::l=>by have h1:=szFs_len l;obtain⟨lb,pr,p,t⟩:=x;rw[szFs,szF,List.length_cons];omega
theorem szF_at{f:Fd}(h:f.pr≠0):szT f.t<szF f:=by
 obtain⟨lb,pr,p,t⟩:=f
 rw[szF,if_neg h];show szT t<_;omega
section
variable [LoB]
attribute [local instance] Ex.no
theorem szTs_tk{x:TyT}{l:List TyT}{i:Nat}(h:l[i]?=some x):szTs (l.take (i+1))=szTs (l.take i)+szT x:=by
 have key:∀ (a b:List TyT),szTs (a++b)=szTs a+szTs b:=by
  intro a
  induction a with
  | nil=>intro b;simp[szTs]
  | cons y a ih=>intro b;rw[List.cons_append,szTs,szTs,ih];omega
 rw[List.take_add_one,h,key]
 simp[szTs]
theorem szFs_tk{x:Fd}{l:List Fd}{i:Nat}(h:l[i]?=some x):szFs (l.take (i+1))=szFs (l.take i)+szF x:=by
 have key:∀ (a b:List Fd),szFs (a++b)=szFs a+szFs b:=by
  intro a
  induction a with
  | nil=>intro b;simp[szFs]
  | cons y a ih=>intro b;rw[List.cons_append,szFs,szFs,ih];omega
 rw[List.take_add_one,h,key]
 simp[szFs]
theorem szTs_tle(l:List TyT)(i:Nat):szTs (l.take i)≤szTs l:=by
 induction l generalizing i with
 | nil=>simp
 | cons x l ih=>cases i with
  | zero=>simp[szTs]
  | succ i=>rw[List.take_succ_cons,szTs,szTs];have:=ih i;omega
theorem szFs_tle(l:List Fd)(i:Nat):szFs (l.take i)≤szFs l:=by
 induction l generalizing i with
 | nil=>simp
 | cons x l ih=>cases i with
  | zero=>simp[szFs]
  | succ i=>rw[List.take_succ_cons,szFs,szFs];have:=ih i;omega
theorem cut_more{a b:Nat}{most n:Int}(h:Cut a most n)(hn:most<n)(hab:a≤b):Cut b most n:=by
 unfold Cut at *
 constructor
 ·intro k;have:=h.1 (by omega);omega
 ·intro _;exact hn
def RPC(N:Nat):Prop:=∀ (w W:World)(ok:Nat→Prop)(P:List UInt8→Prop)(t:TyT)(A B:Option Addr)(c d:Nat)(most:Int),rzT t<N→Fr [] w W →
  TyAt w ok P t [.int .i64 t.k,.int .i64 t.v,.slice A t.args.length c,.slice B t.fs.length d,.int .i64 t.rest]→-1≤most→most≤5000 →
  Calls Tryz.prog 27 #[.agg #[.int .i64 t.k,.int .i64 t.v,.slice A t.args.length c,.slice B t.fs.length d,.int .i64 t.rest],.int .i64 most] W fun e w'=>∃ n:Int,e = .returned (.int .i64 n)∧Cut (szT t) most n∧1≤n∧n≤most+2∧Fr [] W w'
theorem rparts_step(N:Nat)(ih:RPC N):RPC (N+1):=by
 intro w W ok P t A B c d most hN hW ht hm0 hm1
 obtain⟨k,v,args,fs,rest⟩:=t
 rw[rzT] at hN
 simp only[TyT.k,TyT.v,TyT.args,TyT.fs,TyT.rest] at ht ⊢
 obtain⟨v2,v3,he,har,hfs⟩:=TyAt.iff.1 ht
 cases he
 have HAR:=Lib.hid har
 have HFS:=Lib.hid hfs
 have IH:=Lib.hid ih
 have HN:=Lib.hid hN
 have HW:=Lib.hid hW
 have f0:=(Fr.refl [] W).alloc (.cells #[.int .i64 k,.int .i64 v,.slice A args.length c,.slice B fs.length d,.int .i64 rest] 27)
 have g0:=heap_new W (.cells #[.int .i64 k,.int .i64 v,.slice A args.length c,.slice B fs.length d,.int .i64 rest] 27)
 obtain⟨⟨l0,l1,l2,l3,l4⟩,_⟩:=cells5 g0
 have hgs:=lt_of_heap g0
 have hS:szT (.mk k v args fs rest)=1+szTs args+szFs fs:=by rw[szT]
 rw[hS]
 have HF0:=Lib.hid f0
 have HG0:=Lib.hid g0
 clear ih har hfs hN hW ht hS f0 g0
 go_enter Tryz.func27,Tryz.ntmps27
 go_wp2_with fail
 generalize W.alloc (.cells #[.int .i64 k,.int .i64 v,.slice A args.length c,.slice B fs.length d,.int .i64 rest] 27)=x at *
 generalize hT:W.heap.size=T at *
 go_loopw [5,6] (fun nv iv wr=>∃ (i:Nat) (n:Int),nv = .int .i64 n∧iv = .int .i64 i∧i≤args.length∧(i:Int)<n∧Hid (Cut (1+szTs (args.take i)) most n)∧n≤most+2∧Hid (wr.heap[T]?=some (.cells #[.int .i64 k,.int .i64 v,.slice A args.length c,.slice B fs.length d,.int .i64 rest] 27 (0,0)))∧Hid (Fr [] W wr)) (fun nv iv wr=>args.length-(intOf iv).toNat)
 case atStart=>exact⟨0,1,rfl,rfl,by omega,by omega,Lib.hid (by rw[List.take_zero];exact cut_self 1 most),by omega,HG0,HF0⟩
 case round =>
  obtain⟨i,n,rfl,rfl,hi,hin,HC,hn2,HG,HF⟩:=hrel
  clear HG0 HF0 l0 l1 l2 l3 l4 hgs
  have q1:(0:Int)≤(i:Int):=by omega
  have hgs:=lt_of_heap HG.out
  obtain⟨⟨l0,l1,l2,l3,l4⟩,_⟩:=cells5 HG.out
  have fin:∀ n:Int,1≤n→n≤most+2→Cut (1+szTs args) most n→∀ wr:World,wr.heap[T]?=some (.cells #[.int .i64 k,.int .i64 v,.slice A args.length c,.slice B fs.length d,.int .i64 rest] 27 (0,0))→Fr [] W wr→True:=fun _ _ _ _ _ _ _=>trivial
  clear fin
  by_cases hlt:i<args.length∧n≤most
  ·obtain⟨hlt,hc⟩:=hlt
   have hx:args[i]?=some args[i]:=List.getElem?_eq_getElem hlt
   generalize args[i]=z at hx
   have q2:(i:Int)<(args.length:Int):=by omega
   obtain⟨g,og,rfl,hok,hg,B2,d2,D2,e2,hty,x0,x1,x2,x3,x4⟩:=HAR.out.at hx
   have fw:=HW.out.trans HF.out
   replace x0:=(fw.cell (p:=⟨g,og+i * 5,none⟩) hg (fun x=>by cases x)).trans x0
   replace x1:=(fw.cell (p:=⟨g,og+i * 5+1,none⟩) hg (fun x=>by cases x)).trans x1
   replace x2:=(fw.cell (p:=⟨g,og+i * 5+2,none⟩) hg (fun x=>by cases x)).trans x2
   replace x3:=(fw.cell (p:=⟨g,og+i * 5+3,none⟩) hg (fun x=>by cases x)).trans x3
   replace x4:=(fw.cell (p:=⟨g,og+i * 5+4,none⟩) hg (fun x=>by cases x)).trans x4
   have hgw:g<wr.heap.size:=Nat.lt_of_lt_of_le hg fw.size
   have hzN:rzT z<N:=by have:=rzTs_at hx;have:=HN.out;omega
   have cS:=fun X (hX:Fr [] W X)=>Lib.hid (IH.out w X ok P z B2 D2 d2 e2 (most-n) hzN (HW.out.trans hX) hty (by omega) (by omega))
   have HC2:=Lib.hid (szTs_tk hx)
   clear hx hok fw hzN hty
   go_wp2_with fail
   refine(cS _ HF.out).out.mono ?_
   rintro e w6 ⟨n6,rfl,hc6,hn6,hm6,f6⟩
   have HG6:=Lib.hid (f6.keep HG.out (fun x=>by cases x))
   have HF6:=Lib.hid (HF.out.trans f6)
   have hcut:=cut_add HC.out (z:=szT z) (s:=n6) (fun _=>hc6)
   rw[if_pos hc,Nat.add_assoc,← HC2.out] at hcut
   have HC6:=Lib.hid hcut
   clear cS hcut f6 hc6 x0 x1 x2 x3 x4 l0 l1 l2 l3 l4
   go_wp2_with fail
   go_roundw
   case rel=>exact⟨i+1,n+n6,by first|rfl|simp|go_num,by first|rfl|simp|go_num,by omega,by omega,HC6,by omega,HG6,HF6⟩
   case measure=>simp[intOf];omega
  ·have hfull:Cut (1+szTs args) most n:=by
    by_cases h1:i<args.length
    ·exact cut_more HC.out (by have:¬ n≤most:=fun h2=>hlt ⟨h1,h2⟩;omega) (by have:=szTs_tle args i;omega)
    ·have:=HC.out;rw[List.take_of_length_le (by omega)] at this;exact this
   have HFU:=Lib.hid hfull
   have q9:¬ (i:Int)<(args.length:Int)∨((i:Int)<(args.length:Int)∧¬ n≤most):=by
    by_cases h1:i<args.length
    ·exact .inr ⟨by omega,fun h2=>hlt ⟨h1,h2⟩⟩
    ·exact .inl (by omega)
   have hn1:1≤n:=by omega
   clear HC hfull hlt hin
   rcases q9 with q2|⟨q2,q3⟩
   all_goals
    go_wp2_with fail
    have hw5:∃ w5,w5=wr:=⟨_,rfl⟩
    obtain⟨w5,hw5⟩:=hw5
    subst hw5
    go_loopw [5,7] (fun nv iv wr=>∃ (i:Nat) (n:Int),nv = .int .i64 n∧iv = .int .i64 i∧i≤fs.length∧(i:Int)<n∧Hid (Cut (1+szTs args+szFs (fs.take i)) most n)∧n≤most+2∧Hid (wr.heap[T]?=some (.cells #[.int .i64 k,.int .i64 v,.slice A args.length c,.slice B fs.length d,.int .i64 rest] 27 (0,0)))∧Hid (Fr [] W wr)) (fun nv iv wr=>fs.length-(intOf iv).toNat)
    case atStart=>exact⟨0,n,rfl,rfl,by omega,by omega,Lib.hid (by rw[List.take_zero,szFs];exact HFU.out),by omega,HG,HF⟩
    case round =>
     obtain⟨i,n,rfl,rfl,hi,hin,HC,hn2,HG,HF⟩:=hrel
     clear HFU l0 l1 l2 l3 l4 hgs
     have q1:(0:Int)≤(i:Int):=by omega
     have hgs:=lt_of_heap HG.out
     obtain⟨⟨l0,l1,l2,l3,l4⟩,_⟩:=cells5 HG.out
     by_cases hlt:i<fs.length∧n≤most
     ·obtain⟨hlt,hc⟩:=hlt
      have hx:fs[i]?=some fs[i]:=List.getElem?_eq_getElem hlt
      generalize fs[i]=f at hx
      have q2:(i:Int)<(fs.length:Int):=by omega
      obtain⟨g,og,rfl,hok,hg,Bf,df,Df,ef,hty,x0,x1,x2,x3,x4,x5,x6,x7⟩:=HFS.out.at hx
      have fw:=HW.out.trans HF.out
      replace x0:=(fw.cell (p:=⟨g,og+i * 8,none⟩) hg (fun x=>by cases x)).trans x0
      replace x1:=(fw.cell (p:=⟨g,og+i * 8+1,none⟩) hg (fun x=>by cases x)).trans x1
      replace x2:=(fw.cell (p:=⟨g,og+i * 8+2,none⟩) hg (fun x=>by cases x)).trans x2
      replace x3:=(fw.cell (p:=⟨g,og+i * 8+3,none⟩) hg (fun x=>by cases x)).trans x3
      replace x4:=(fw.cell (p:=⟨g,og+i * 8+4,none⟩) hg (fun x=>by cases x)).trans x4
      replace x5:=(fw.cell (p:=⟨g,og+i * 8+5,none⟩) hg (fun x=>by cases x)).trans x5
      replace x6:=(fw.cell (p:=⟨g,og+i * 8+6,none⟩) hg (fun x=>by cases x)).trans x6
      replace x7:=(fw.cell (p:=⟨g,og+i * 8+7,none⟩) hg (fun x=>by cases x)).trans x7
      have hgw:g<wr.heap.size:=Nat.lt_of_lt_of_le hg fw.size
      have hzN:rzT f.t<N:=by have:=rzFs_at hx;have:=HN.out;omega
      have hsz:szF f=1+if f.pr=0 then 0 else szT f.t:=by obtain⟨lb,pr,p,t⟩:=f;rw[szF]
      by_cases hp:f.pr=0
      ·have hc3:(f.pr==0)=true:=by simp[hp]
       have hc4:(f.pr != 0)=false:=by simp[hp]
       rw[if_pos hp] at hsz
       have hcut2:Cut (1+szTs args+szFs (fs.take (i+1))) most (n+1):=by
        rw[szFs_tk hx,hsz,← Nat.add_assoc];exact cut_one HC.out
       have HC6:=Lib.hid hcut2
       clear hx hok fw hzN hty hp hsz hcut2
       go_wp2_with fail
       go_roundw
       case rel=>exact⟨i+1,n+1,by first|rfl|simp|go_num,by first|rfl|simp|go_num,by omega,by omega,HC6,by omega,HG,HF⟩
       case measure=>simp[intOf];omega
      ·have hc3:(f.pr==0)=false:=beq_eq_false_iff_ne.2 hp
       have hc4:(f.pr != 0)=true:=by simp[hp]
       rw[if_neg hp] at hsz
       have cS:=fun X (hX:Fr [] W X)=>Lib.hid (IH.out w X ok P f.t Bf Df df ef (most-(n+1)) hzN (HW.out.trans hX) hty (by omega) (by omega))
       have HC2:=Lib.hid (show 1+szTs args+szFs (fs.take (i+1))=1+szTs args+szFs (fs.take i)+1+szT f.t by rw[szFs_tk hx,hsz];omega)
       clear hx hok fw hzN hty hp hsz
       go_wp2_with fail
       refine(cS _ HF.out).out.mono ?_
       rintro e w6 ⟨n6,rfl,hc6,hn6,hm6,f6⟩
       have HG6:=Lib.hid (f6.keep HG.out (fun x=>by cases x))
       have HF6:=Lib.hid (HF.out.trans f6)
       have hcut:Cut (1+szTs args+szFs (fs.take i)+1+szT f.t) most (n+1+n6):=by
        by_cases h1:n+1≤most
        ·have:=cut_add (cut_one HC.out) (z:=szT f.t) (s:=n6) (fun _=>hc6)
         rw[if_pos h1] at this;exact this
        ·have h2:=cut_one HC.out
         have h3:1≤szT f.t:=by obtain⟨k,v,a,f,r⟩:=f.t;rw[szT];omega
         unfold Cut at h2 ⊢
         constructor
         ·intro c9
          have:=h2.1 (by omega)
          omega
         ·intro _;omega
       rw[← HC2.out] at hcut
       have HC6:=Lib.hid hcut
       clear cS hcut f6 hc6 x0 x1 x2 x3 x4 x5 x6 x7 l0 l1 l2 l3 l4
       go_wp2_with fail
       go_roundw
       case rel=>exact⟨i+1,n+1+n6,by first|rfl|simp|go_num,by first|rfl|simp|go_num,by omega,by omega,HC6,by omega,HG6,HF6⟩
       case measure=>simp[intOf];omega
     ·have hfull:Cut (1+szTs args+szFs fs) most n:=by
       by_cases h1:i<fs.length
       ·exact cut_more HC.out (by have:¬ n≤most:=fun h2=>hlt ⟨h1,h2⟩;omega) (by have:=szFs_tle fs i;omega)
       ·have:=HC.out;rw[List.take_of_length_le (by omega)] at this;exact this
      have HFU:=Lib.hid hfull
      have q9:¬ (i:Int)<(fs.length:Int)∨((i:Int)<(fs.length:Int)∧¬ n≤most):=by
       by_cases h1:i<fs.length
       ·exact .inr ⟨by omega,fun h2=>hlt ⟨h1,h2⟩⟩
       ·exact .inl (by omega)
      have hn1:1≤n:=by omega
      clear HC hfull hlt hin
      rcases q9 with q2|⟨q2,q3⟩
      all_goals
       go_wp2_with fail
       go_ret
       exact⟨n,rfl,HFU.out,hn1,hn2,HF.out⟩
theorem rparts_all:∀ N,RPC N
 | 0=>by intro _ _ _ _ _ _ _ _ _ _ h;exact absurd h (Nat.not_lt_zero _)
 | N+1=>rparts_step N (rparts_all N)
end
section
variable [LoB]
attribute [local instance] Ex.no
theorem onceI_in{l:List Int}{v:Int}(h:v ∈ l):onceI true l v=l:=by unfold onceI;rw[if_neg (by simp[h])]
theorem onceI_out{l:List Int}{v:Int}(h:v ∉ l):onceI true l v=l++[v]:=by unfold onceI;rw[if_pos ⟨rfl,h⟩]
theorem onceI_no{b:Bool}{l:List Int}{v:Int}(h:b=false):onceI b l v=l:=by unfold onceI;rw[if_neg (by simp[h])]
theorem once_any{base:Nat}{W:World}{X:Option Addr}{cx:Nat}{l:List Int}(h:AppI base W X cx l)(hb:base≤W.heap.size)(hl:l.length≤1073741824)(v:Int):
  Calls Tryz.prog 35 #[.slice X l.length cx,.int .i64 v] W fun e w'=>∃ X' cx',e = .returned (.slice X' (onceI true l v).length cx')∧IStp base W X cx l w' X' cx' (onceI true l v):=by
 obtain⟨i1,hi,hz0,hz1,hz2⟩:=info_parts infoInt
 have HI:=Lib.hid hi
 have HZ0:=Lib.hid hz0
 have HZ1:=Lib.hid hz1
 have HZ2:=Lib.hid hz2
 have H:=Lib.hid h
 clear hi hz0 hz1 hz2 h
 go_enter Tryz.func35,Tryz.ntmps35
 go_wp2_with fail
 go_loopw [5] (fun iv wr=>∃ i:Nat,iv = .int .i64 i∧wr=W∧i≤l.length∧Hid (v ∉ l.take i)) (fun iv wr=>l.length-(intOf iv).toNat)
 case atStart=>exact⟨0,rfl,rfl,by omega,Lib.hid (by simp)⟩
 case round =>
  obtain⟨i,rfl,rfl,hi,HV⟩:=hrel
  have q1:(0:Int)≤(i:Int):=by omega
  by_cases hlt:i<l.length
  ·have hx:l[i]?=some l[i]:=List.getElem?_eq_getElem hlt
   generalize l[i]=x at hx
   obtain⟨g,rfl,hg,x0⟩:=H.out.ints.at hx
   have q2:(i:Int)<(l.length:Int):=by omega
   have HX:=Lib.hid hx
   clear hx
   by_cases e:x=v
   ·have q3:(x==v)=true:=by simp[e]
    have hm:v ∈ l:=by rw[← e];exact List.mem_of_getElem? HX.out
    have HM:=Lib.hid hm
    clear e hm
    go_wp2_with fail
    go_ret
    rw[onceI_in HM.out]
    exact⟨_,cx,rfl,.refl H.out⟩
   ·have q3:(x==v)=false:=beq_eq_false_iff_ne.2 e
    have hv:v ∉ l.take (i+1):=by
     rw[List.take_add_one,HX.out]
     simp only[List.mem_append,Option.toList_some,List.mem_singleton]
     rintro(c|c)
     ·exact HV.out c
     ·exact e c.symm
    have HV2:=Lib.hid hv
    clear e hv
    go_wp2_with fail
    go_roundw
    case rel=>exact⟨i+1,by first|rfl|simp|go_num,by first|rfl|trivial,by omega,HV2⟩
    case measure=>simp[intOf];omega
  ·have q2:¬ (i:Int)<(l.length:Int):=by omega
   have hv:v ∉ l:=by have:=HV.out;rw[List.take_of_length_le (by omega)] at this;exact this
   have HV2:=Lib.hid hv
   have f8:=(Fr.refl [] wr).alloc (.cells #[.int .i64 v] 3)
   have g8:=heap_new wr (.cells #[.int .i64 v] 3)
   have hA8:=H.out.keep f8 (fun x hx=>by cases hx)
   have HA8:=Lib.hid hA8
   have HOW:=Lib.hid hA8.own
   have HNS:=Lib.hid (World.news_of_block g8)
   have HF8:=Lib.hid f8
   clear hv f8 g8 hA8 HV
   go_wp2_with (at_builtin;refine wpList_append_fp _ rfl _ _ 36 rfl 3 i1 _ 1 8 Tryz.underlying36 HI.out HZ0.out HZ1.out HZ2.out rfl (by decide) (.slice X l.length cx) l.length (l.map encI) rfl HOW.out ⟨wr.heap.size,0,none⟩ 1 1 [encI v] rfl rfl HNS.out (by simp[Value.oneCell',encI]) (by simp only[maxLen];omega) (by omega) ?_;intro v9 w9 hown9 hgrow9 hfp9;obtain⟨A8,c8,rfl⟩:=own_sl hown9)
   go_ret
   rw[onceI_out HV2.out]
   have hsz:=World.size_alloc wr (.cells #[.int .i64 v] 3)
   refine⟨A8,c8,by simp,HA8.out.app (by omega) hown9 hfp9,fun g e=>?_,(HF8.out.mono (fun x hx=>by cases hx)).grown hgrow9 (fun k e => .inl (oB_mem.2 e))⟩
   rw[List.length_append] at e
   exact(hfp9 g e).imp id (fun c=>by omega)
def VRC(N:Nat):Prop:=∀ (w W:World)(base:Nat)(P:List UInt8→Prop)(t:TyT)(A B X:Option Addr)(c d cx:Nat)(l:List Int),szT t<N→base≤W.heap.size→Below base w W →
  TyAt w (· < base) P t [.int .i64 t.k,.int .i64 t.v,.slice A t.args.length c,.slice B t.fs.length d,.int .i64 t.rest]→AppI base W X cx l→l.length+2 * szT t≤1073741824 →
  Calls Tryz.prog 17 #[.agg #[.int .i64 t.k,.int .i64 t.v,.slice A t.args.length c,.slice B t.fs.length d,.int .i64 t.rest],.slice X l.length cx] W fun e w'=>∃ X' cx',e = .returned (.slice X' (gvT t l).length cx')∧IStp base W X cx l w' X' cx' (gvT t l)
theorem rvars_step(N:Nat)(ih:VRC N):VRC (N+1):=by
 intro w W base P t A B X c d cx l hN hb hW ht hA hl
 obtain⟨k,v,args,fs,rest⟩:=t
 rw[szT] at hN hl
 simp only[TyT.k,TyT.v,TyT.args,TyT.fs,TyT.rest] at ht ⊢
 obtain⟨v2,v3,he,har,hfs⟩:=TyAt.iff.1 ht
 cases he
 have HAR:=Lib.hid har
 have HFS:=Lib.hid hfs
 have IH:=Lib.hid ih
 have HN:=Lib.hid hN
 have HL:=Lib.hid hl
 have f0:=(Fr.refl [] W).alloc (.cells #[.int .i64 k,.int .i64 v,.slice A args.length c,.slice B fs.length d,.int .i64 rest] 27)
 have g0:=heap_new W (.cells #[.int .i64 k,.int .i64 v,.slice A args.length c,.slice B fs.length d,.int .i64 rest] 27)
 obtain⟨⟨l0,l1,l2,l3,l4⟩,_⟩:=cells5 g0
 have hgs:=lt_of_heap g0
 have hz:=World.size_alloc W (.cells #[.int .i64 k,.int .i64 v,.slice A args.length c,.slice B fs.length d,.int .i64 rest] 27)
 obtain⟨S,hS⟩:∃ S,gvT (.mk k v args fs rest) l=S:=⟨_,rfl⟩
 rw[hS]
 rw[gvT] at hS
 have HS:=Lib.hid hS
 have HA:=Lib.hid hA
 have hA0:=hA.keep f0 (fun x hx=>by cases hx)
 have HA0:=Lib.hid hA0
 have hown:∀ g,(Value.slice X l.length cx).ownBlock=some g→g<W.heap.size:=fun g e=>(hA.lo g e).2
 have HOWN:=Lib.hid hown
 have HF0:=Lib.hid f0
 have HW:=Lib.hid (hW.trans (f0.below hb (fun x hx=>by cases hx)))
 have HG0:=Lib.hid g0
 clear ih har hfs hN hW ht hA hA0 hl hS f0 g0 hown
 generalize hT:W.heap.size=T at *
 obtain⟨la,hla⟩:∃ la,la=onceI (k==1) l v:=⟨_,rfl⟩
 have hlen1:la.length≤l.length+1:=by rw[hla];exact onceI_len _ _ _
 rw[← hla] at HS
 have HLA:=Lib.hid hla
 clear hla
 have hl1:l.length≤1073741824:=by have:=HL.out;omega
 have hal:args.length≤1073741824:=by have:=HL.out;have:=szTs_len args;omega
 have hfl:fs.length≤1073741824:=by have:=HL.out;have:=szFs_len fs;omega
 go_enter Tryz.func17,Tryz.ntmps17
 go_upto_if 10 with(fail)
 generalize W.alloc (.cells #[.int .i64 k,.int .i64 v,.slice A args.length c,.slice B fs.length d,.int .i64 rest] 27)=x at *
 go_cut [1] (fun u wx=>∃ (X1:Option Addr) (c1:Nat),u = .slice X1 la.length c1∧Hid (IStp base x X cx l wx X1 c1 la))
 case first =>
  by_cases h1:k=1
  ·have q1:(k==1)=true:=by simp[h1]
   have h3:=HLA.out
   rw[q1] at h3
   have H3:=Lib.hid h3
   clear h1 h3
   go_wp2_with fail
   refine(once_any HA0.out (by omega) hl1 v).mono ?_
   rintro e w6 ⟨X1,c1,rfl,hst⟩
   rw[← H3.out] at hst ⊢
   have HST:=Lib.hid hst
   clear hst
   go_wp2_with fail
   go_meet
   exact⟨X1,c1,rfl,HST⟩
  ·have q1:(k==1)=false:=beq_eq_false_iff_ne.2 h1
   have e1:la=l:=HLA.out.trans (onceI_no (l:=l) (v:=v) q1)
   have HST:=Lib.hid (IStp.refl HA0.out)
   subst e1
   clear h1
   go_wp2_with fail
   go_meet
   exact⟨X,cx,rfl,HST⟩
 case rest =>
  obtain⟨X1,c1,rfl,HST⟩:=hcut
  clear l0 l1 l2 l3 l4
  have hG:=HST.out.keep HG0.out HOWN.out
  obtain⟨⟨l0,l1,l2,l3,l4⟩,_⟩:=cells5 hG
  have hgs2:=lt_of_heap hG
  clear hG
  go_wp2_with fail
  go_loopw [1,5] (fun xv iv wr=>∃ (i:Nat) (X2:Option Addr) (c2:Nat),xv = .slice X2 (gvTs (args.take i) la).length c2∧iv = .int .i64 i∧i≤args.length∧Hid (IStp base x X cx l wr X2 c2 (gvTs (args.take i) la))) (fun xv iv wr=>args.length-(intOf iv).toNat)
  case atStart=>exact⟨0,X1,c1,rfl,rfl,by omega,HST⟩
  case round =>
   obtain⟨i,X2,c2,rfl,rfl,hi,HST⟩:=hrel
   clear l0 l1 l2 l3 l4 hgs2
   have hG:=HST.out.keep HG0.out HOWN.out
   obtain⟨⟨l0,l1,l2,l3,l4⟩,_⟩:=cells5 hG
   have hgs2:=lt_of_heap hG
   clear hG
   have q1:(0:Int)≤(i:Int):=by omega
   by_cases hlt:i<args.length
   ·have hx:args[i]?=some args[i]:=List.getElem?_eq_getElem hlt
    generalize args[i]=z at hx
    have q2:(i:Int)<(args.length:Int):=by omega
    have hBW:=HW.out.trans (HST.out.below HA0.out (by omega))
    obtain⟨g,og,rfl,hok,hg,B2,d2,D2,e2,hty,x0,x1,x2,x3,x4⟩:=(HAR.out.keep (shB hBW)).at hx
    have hzs:szT z+szTs (args.take i)≤szTs args:=szTs_at hx
    have hln:=gvTs_len (args.take i) la
    have hstp:=gvTs_at hx la
    have cS:=Lib.hid (IH.out wr wr base P z B2 D2 X2 d2 e2 c2 (gvTs (args.take i) la) (by have:=HN.out;omega) (by have:=HST.out.fr.size;omega) (Below.refl _ _) hty HST.out.app (by have:=HL.out;omega))
    rw[← hstp] at cS
    clear hx hty hBW hstp hzs
    go_wp2_with fail
    refine cS.out.mono ?_
    rintro e w6 ⟨X3,c3,rfl,hst⟩
    have HST3:=Lib.hid (HST.out.trans hst)
    clear cS hst x0 x1 x2 x3 x4 l0 l1 l2 l3 l4
    go_wp2_with fail
    go_roundw
    case rel=>exact⟨i+1,X3,c3,rfl,by first|rfl|simp|go_num,by omega,HST3⟩
    case measure=>simp[intOf];omega
   ·have q2:¬ (i:Int)<(args.length:Int):=by omega
    have htk:args.take i=args:=List.take_of_length_le (by omega)
    rw[htk] at HST ⊢
    clear htk
    obtain⟨lb,hlb⟩:∃ lb,lb=gvTs args la:=⟨_,rfl⟩
    have hlen2:lb.length≤la.length+2 * szTs args:=by rw[hlb];exact gvTs_len _ _
    rw[← hlb] at HS HST ⊢
    clear hlb hlt
    go_wp2_with fail
    go_loopw [1,6] (fun xv iv wr=>∃ (i:Nat) (X2:Option Addr) (c2:Nat),xv = .slice X2 (gvFs (fs.take i) lb).length c2∧iv = .int .i64 i∧i≤fs.length∧Hid (IStp base x X cx l wr X2 c2 (gvFs (fs.take i) lb))) (fun xv iv wr=>fs.length-(intOf iv).toNat)
    case atStart=>exact⟨0,X2,c2,rfl,rfl,by omega,HST⟩
    case round =>
     obtain⟨i,X2,c2,rfl,rfl,hi,HST⟩:=hrel
     clear l0 l1 l2 l3 l4 hgs2
     have hG:=HST.out.keep HG0.out HOWN.out
     obtain⟨⟨l0,l1,l2,l3,l4⟩,_⟩:=cells5 hG
     have hgs2:=lt_of_heap hG
     clear hG
     have q1:(0:Int)≤(i:Int):=by omega
     by_cases hlt:i<fs.length
     ·have hx:fs[i]?=some fs[i]:=List.getElem?_eq_getElem hlt
      generalize fs[i]=f at hx
      have q2:(i:Int)<(fs.length:Int):=by omega
      have hBW:=HW.out.trans (HST.out.below HA0.out (by omega))
      obtain⟨g,og,rfl,hok,hg,Bf,df,Df,ef,hty,x0,x1,x2,x3,x4,x5,x6,x7⟩:=(HFS.out.keep (shB hBW)).at hx
      have hzs:szF f+szFs (fs.take i)≤szFs fs:=szFs_at hx
      have hln:=gvFs_len (fs.take i) lb
      have hstp:=gvFs_at hx lb
      have f7:=(Fr.refl [] wr).alloc (.cells #[.string ⟨f.lb.toArray⟩,.int .i64 f.pr,.int .i64 f.p,.int .i64 f.t.k,.int .i64 f.t.v,.slice Bf f.t.args.length df,.slice Df f.t.fs.length ef,.int .i64 f.t.rest] 44)
      have p7:=heap_new wr (.cells #[.string ⟨f.lb.toArray⟩,.int .i64 f.pr,.int .i64 f.p,.int .i64 f.t.k,.int .i64 f.t.v,.slice Bf f.t.args.length df,.slice Df f.t.fs.length ef,.int .i64 f.t.rest] 44)
      obtain⟨⟨m0,m1,m2,m3,m4,m5,m6,m7⟩,_⟩:=cells8 p7
      have hms:=lt_of_heap p7
      have hl7:=World.size_alloc wr (.cells #[.string ⟨f.lb.toArray⟩,.int .i64 f.pr,.int .i64 f.p,.int .i64 f.t.k,.int .i64 f.t.v,.slice Bf f.t.args.length df,.slice Df f.t.fs.length ef,.int .i64 f.t.rest] 44)
      have HST7:=Lib.hid (HST.out.fr0 f7)
      have HTY:=Lib.hid (hty.keep (shB (f7.below (B:=base) (by have:=HST.out.fr.size;omega) (fun x hx=>by cases hx))))
      have HSTP:=Lib.hid hstp
      have HP7:=Lib.hid p7
      clear hx hty hBW f7 hstp p7
      have hgv:∀ m,gvF f m=if f.pr=0 then m else gvT f.t (onceI (f.pr==2) m f.p):=fun m=>by obtain⟨lb,pr,p,t⟩:=f;rw[gvF]
      have hszf:f.pr≠0→szT f.t<szF f:=szF_at
      by_cases hp:f.pr=0
      ·have hc3:(f.pr==2)=false:=by rw[hp];rfl
       have hc4:(f.pr != 0)=false:=by simp[hp]
       have hc5:(f.pr==0)=true:=by simp[hp]
       have e7:=HSTP.out
       rw[hgv,if_pos hp] at e7
       rw[← e7] at HST7 ⊢
       clear hgv hszf hp e7 HSTP
       go_wp2_with fail
       go_roundw
       case rel=>exact⟨i+1,X2,c2,rfl,by first|rfl|simp|go_num,by omega,HST7⟩
       case measure=>simp[intOf];omega
      ·have hc5:(f.pr==0)=false:=beq_eq_false_iff_ne.2 hp
       have hc4:(f.pr != 0)=true:=by simp[hp]
       have hz7:=hszf hp
       have e7:=HSTP.out
       rw[hgv,if_neg hp] at e7
       have HP:=Lib.hid hp
       clear hgv hszf hp HSTP
       by_cases h2:f.pr=2
       ·have hc3:(f.pr==2)=true:=by simp[h2]
        rw[hc3] at e7
        have hpt:=onceI_len true (gvFs (fs.take i) lb) f.p
        have E7:=Lib.hid e7
        clear h2 e7
        go_wp2_with fail
        refine(once_any HST7.out.app (by have:=HST7.out.fr.size;omega) (by have:=HL.out;omega) f.p).mono ?_
        rintro e w6 ⟨X3,c3,rfl,hst⟩
        have hP6:=hst.keep HP7.out (fun g e=>by have:=(HST.out.app.lo g e).2;omega)
        have hB6:=hst.below HST7.out.app (by have:=HST7.out.fr.size;omega)
        have HTY6:=Lib.hid (HTY.out.keep (shB hB6))
        have HST6:=Lib.hid (HST7.out.trans hst)
        have HST6':=Lib.hid hst
        clear m0 m1 m2 m3 m4 m5 m6 m7 l0 l1 l2 l3 l4 x0 x1 x2 x3 x4 x5 x6 x7 hms hst hB6
        obtain⟨⟨m0,m1,m2,m3,m4,m5,m6,m7⟩,_⟩:=cells8 hP6
        have hms:=lt_of_heap hP6
        clear hP6
        have cS:=Lib.hid (IH.out w6 w6 base P f.t Bf Df X3 df ef c3 (onceI true (gvFs (fs.take i) lb) f.p) (by have:=HN.out;omega) (by have:=HST6.out.fr.size;omega) (Below.refl _ _) HTY6.out HST6.out.app (by have:=HL.out;omega))
        rw[← E7.out] at cS
        go_wp2_with fail
        refine cS.out.mono ?_
        rintro e w8 ⟨X4,c4,rfl,hst⟩
        have HST8:=Lib.hid (HST6.out.trans hst)
        clear cS hst m0 m1 m2 m3 m4 m5 m6 m7
        go_wp2_with fail
        go_roundw
        case rel=>exact⟨i+1,X4,c4,rfl,by first|rfl|simp|go_num,by omega,HST8⟩
        case measure=>simp[intOf];omega
       ·have hc3:(f.pr==2)=false:=beq_eq_false_iff_ne.2 h2
        rw[hc3,onceI_no rfl] at e7
        have E7:=Lib.hid e7
        clear h2 e7
        have cS:=Lib.hid (IH.out _ _ base P f.t Bf Df X2 df ef c2 (gvFs (fs.take i) lb) (by have:=HN.out;omega) (by have:=HST7.out.fr.size;omega) (Below.refl _ _) HTY.out HST7.out.app (by have:=HL.out;omega))
        rw[← E7.out] at cS
        go_wp2_with fail
        refine cS.out.mono ?_
        rintro e w8 ⟨X4,c4,rfl,hst⟩
        have HST8:=Lib.hid (HST7.out.trans hst)
        clear cS hst m0 m1 m2 m3 m4 m5 m6 m7 x0 x1 x2 x3 x4 x5 x6 x7 l0 l1 l2 l3 l4
        go_wp2_with fail
        go_roundw
        case rel=>exact⟨i+1,X4,c4,rfl,by first|rfl|simp|go_num,by omega,HST8⟩
        case measure=>simp[intOf];omega
     ·have q2:¬ (i:Int)<(fs.length:Int):=by omega
      have htk:fs.take i=fs:=List.take_of_length_le (by omega)
      rw[htk] at HST ⊢
      clear htk
      obtain⟨ld,hld⟩:∃ ld,ld=gvFs fs lb:=⟨_,rfl⟩
      have hlen3:ld.length≤lb.length+2 * szFs fs:=by rw[hld];exact gvFs_len _ _
      rw[← hld] at HS HST ⊢
      clear hld hlt
      by_cases hr:0<rest
      ·have hd:decide (0<rest)=true:=by simp[hr]
       have e7:=HS.out
       rw[hd] at e7
       have E7:=Lib.hid e7
       clear e7
       go_wp2_with fail
       refine(once_any HST.out.app (by have:=HST.out.fr.size;omega) (by have:=HL.out;omega) rest).mono ?_
       rintro e w6 ⟨X3,c3,rfl,hst⟩
       rw[E7.out] at hst ⊢
       have HST6:=Lib.hid ((IStp.mk HA0.out (fun g e => .inl e) (HF0.out.mono (fun x hx=>by cases hx)):IStp base W X cx l x X cx l).trans (HST.out.trans hst))
       clear hst l0 l1 l2 l3 l4
       go_wp2_with fail
       go_ret
       exact⟨X3,c3,rfl,HST6.out⟩
      ·have hd:decide (0<rest)=false:=by simp[hr]
       have e7:=HS.out
       rw[hd,onceI_no rfl] at e7
       subst e7
       have HST6:=Lib.hid ((IStp.mk HA0.out (fun g e => .inl e) (HF0.out.mono (fun x hx=>by cases hx)):IStp base W X cx l x X cx l).trans HST.out)
       go_wp2_with fail
       go_ret
       exact⟨X2,c2,rfl,HST6.out⟩
theorem rvars_all:∀ N,VRC N
 | 0=>by intro _ _ _ _ _ _ _ _ _ _ _ _ h;exact absurd h (Nat.not_lt_zero _)
 | N+1=>rvars_step N (rvars_all N)
end
section
variable [LoB]
attribute [local instance] Ex.no
theorem kcJ{w w':World}{p:Addr}{v:Value}(f:Fr [] w w')(h:w.cell? p=some v)(hlt:p.block<w.heap.size):w'.cell? p=some v:=(f.cell hlt (fun x=>by cases x)).trans h
def RSC(N:Nat):Prop:=∀ (w W:World)(ok ok':Nat→Prop)(P P':List UInt8→Prop)(t:TyT)(A B A' B':Option Addr)(c d c' d':Nat),rzT t<N→Fr [] w W→LimT t →
  TyAt w ok P t [.int .i64 t.k,.int .i64 t.v,.slice A t.args.length c,.slice B t.fs.length d,.int .i64 t.rest]→TyAt w ok' P' t [.int .i64 t.k,.int .i64 t.v,.slice A' t.args.length c',.slice B' t.fs.length d',.int .i64 t.rest] →
  Calls Tryz.prog 14 #[.agg #[.int .i64 t.k,.int .i64 t.v,.slice A t.args.length c,.slice B t.fs.length d,.int .i64 t.rest],.agg #[.int .i64 t.k,.int .i64 t.v,.slice A' t.args.length c',.slice B' t.fs.length d',.int .i64 t.rest]] W fun e w'=>e = .returned (.bool true)∧Fr [] W w'
theorem rsame_step(N:Nat)(ih:RSC N):RSC (N+1):=by
 intro w W ok ok' P P' t A B A' B' c d c' d' hN hW hL ht ht'
 obtain⟨k,v,args,fs,rest⟩:=t
 rw[rzT] at hN
 rw[LimT] at hL
 simp only[TyT.k,TyT.v,TyT.args,TyT.fs,TyT.rest] at ht ht' ⊢
 obtain⟨v2,v3,he,har,hfs⟩:=TyAt.iff.1 ht
 cases he
 obtain⟨v2,v3,he,har',hfs'⟩:=TyAt.iff.1 ht'
 cases he
 obtain⟨hal,hfl,hL3,hL4⟩:=hL
 have HAR:=Lib.hid har
 have HFS:=Lib.hid hfs
 have HAR':=Lib.hid har'
 have HFS':=Lib.hid hfs'
 have IH:=Lib.hid ih
 have HN:=Lib.hid hN
 have HW:=Lib.hid hW
 have HL3:=Lib.hid (limTs_iff.1 hL3)
 have HL4:=Lib.hid (limFs_iff.1 hL4)
 have f0:=((Fr.refl [] W).alloc (.cells #[.int .i64 k,.int .i64 v,.slice A args.length c,.slice B fs.length d,.int .i64 rest] 27)).alloc (.cells #[.int .i64 k,.int .i64 v,.slice A' args.length c',.slice B' fs.length d',.int .i64 rest] 27)
 have g0:=heap_old (heap_new W (.cells #[.int .i64 k,.int .i64 v,.slice A args.length c,.slice B fs.length d,.int .i64 rest] 27)) (.cells #[.int .i64 k,.int .i64 v,.slice A' args.length c',.slice B' fs.length d',.int .i64 rest] 27)
 have g1:=heap_new (W.alloc (.cells #[.int .i64 k,.int .i64 v,.slice A args.length c,.slice B fs.length d,.int .i64 rest] 27)) (.cells #[.int .i64 k,.int .i64 v,.slice A' args.length c',.slice B' fs.length d',.int .i64 rest] 27)
 rw[World.size_alloc] at g1
 obtain⟨⟨l0,l1,l2,l3,l4⟩,_⟩:=cells5 g0
 obtain⟨⟨k0,k1,k2,k3,k4⟩,_⟩:=cells5 g1
 have hs0:=lt_of_heap g0
 have hs1:=lt_of_heap g1
 have n0:¬ W.heap.size=W.heap.size+1:=by omega
 have n1:¬ W.heap.size+1=W.heap.size:=by omega
 have HF0:=Lib.hid f0
 have HG0:=Lib.hid g0
 have HG1:=Lib.hid g1
 clear ih har hfs har' hfs' hN hW ht ht' f0 g0 g1 hL3 hL4
 go_enter Tryz.func14,Tryz.ntmps14
 go_wp2_with fail
 generalize (W.alloc (.cells #[.int .i64 k,.int .i64 v,.slice A args.length c,.slice B fs.length d,.int .i64 rest] 27)).alloc (.cells #[.int .i64 k,.int .i64 v,.slice A' args.length c',.slice B' fs.length d',.int .i64 rest] 27)=x at *
 generalize hT:W.heap.size=T at *
 go_loopw [5] (fun iv wr=>∃ (i:Nat),iv = .int .i64 i∧i≤args.length∧Hid (Fr [] x wr)) (fun iv wr=>args.length-(intOf iv).toNat)
 case atStart=>exact⟨0,rfl,by omega,Lib.hid (Fr.refl _ _)⟩
 case round =>
  obtain⟨i,rfl,hi,HF⟩:=hrel
  clear l0 l1 l2 l3 l4 k0 k1 k2 k3 k4 hs0 hs1
  have j0:=HF.out.keep HG0.out (fun x=>by cases x)
  have j1:=HF.out.keep HG1.out (fun x=>by cases x)
  obtain⟨⟨l0,l1,l2,l3,l4⟩,_⟩:=cells5 j0
  obtain⟨⟨k0,k1,k2,k3,k4⟩,_⟩:=cells5 j1
  have hs0:=lt_of_heap j0
  have hs1:=lt_of_heap j1
  clear j0 j1
  have q1:(0:Int)≤(i:Int):=by omega
  by_cases hlt:i<args.length
  ·have hx:args[i]?=some args[i]:=List.getElem?_eq_getElem hlt
   generalize args[i]=z at hx
   have q2:(i:Int)<(args.length:Int):=by omega
   obtain⟨g,og,rfl,hok,hg,B2,d2,D2,e2,hty,x0,x1,x2,x3,x4⟩:=HAR.out.at hx
   obtain⟨g',og',rfl,hok',hg',B3,d3,D3,e3,hty',y0,y1,y2,y3,y4⟩:=HAR'.out.at hx
   have fw:=HW.out.trans (HF0.out.trans HF.out)
   replace x0:=(fw.cell (p:=⟨g,og+i * 5,none⟩) hg (fun x=>by cases x)).trans x0
   replace x1:=(fw.cell (p:=⟨g,og+i * 5+1,none⟩) hg (fun x=>by cases x)).trans x1
   replace x2:=(fw.cell (p:=⟨g,og+i * 5+2,none⟩) hg (fun x=>by cases x)).trans x2
   replace x3:=(fw.cell (p:=⟨g,og+i * 5+3,none⟩) hg (fun x=>by cases x)).trans x3
   replace x4:=(fw.cell (p:=⟨g,og+i * 5+4,none⟩) hg (fun x=>by cases x)).trans x4
   replace y0:=(fw.cell (p:=⟨g',og'+i * 5,none⟩) hg' (fun x=>by cases x)).trans y0
   replace y1:=(fw.cell (p:=⟨g',og'+i * 5+1,none⟩) hg' (fun x=>by cases x)).trans y1
   replace y2:=(fw.cell (p:=⟨g',og'+i * 5+2,none⟩) hg' (fun x=>by cases x)).trans y2
   replace y3:=(fw.cell (p:=⟨g',og'+i * 5+3,none⟩) hg' (fun x=>by cases x)).trans y3
   replace y4:=(fw.cell (p:=⟨g',og'+i * 5+4,none⟩) hg' (fun x=>by cases x)).trans y4
   have hgw:g<wr.heap.size:=Nat.lt_of_lt_of_le hg fw.size
   have hgw':g' < wr.heap.size:=Nat.lt_of_lt_of_le hg' fw.size
   have hzN:rzT z<N:=by have:=rzTs_at hx;have:=HN.out;omega
   have cP:=Lib.hid (IH.out w wr.drew ok ok' P P' z B2 D2 B3 D3 d2 e2 d3 e3 hzN fw.drew (HL3.out z (List.mem_of_getElem? hx)) hty hty')
   clear hx hok hok' fw hzN hty hty'
   go_wp2_with fail
   go_region_held3 (fun w'=>w'.cell? ⟨T,2,none⟩=some (.slice (some ⟨g,og,none⟩) args.length c)∧w'.cell? ⟨T+1,2,none⟩=some (.slice (some ⟨g',og',none⟩) args.length c')∧(w'.cell? ⟨g,og+i * 5,none⟩=some (.int .i64 z.k)∧w'.cell? ⟨g,og+i * 5+1,none⟩=some (.int .i64 z.v)∧w'.cell? ⟨g,og+i * 5+2,none⟩=some (.slice B2 z.args.length d2)∧w'.cell? ⟨g,og+i * 5+3,none⟩=some (.slice D2 z.fs.length e2)∧w'.cell? ⟨g,og+i * 5+4,none⟩=some (.int .i64 z.rest))∧(w'.cell? ⟨g',og'+i * 5,none⟩=some (.int .i64 z.k)∧w'.cell? ⟨g',og'+i * 5+1,none⟩=some (.int .i64 z.v)∧w'.cell? ⟨g',og'+i * 5+2,none⟩=some (.slice B3 z.args.length d3)∧w'.cell? ⟨g',og'+i * 5+3,none⟩=some (.slice D3 z.fs.length e3)∧w'.cell? ⟨g',og'+i * 5+4,none⟩=some (.int .i64 z.rest))) (first|go_keep|exact⟨l2,k2,⟨x0,x1,x2,x3,x4⟩,y0,y1,y2,y3,y4⟩) (((with_reducible refine cP.out.mono ?_);rintro e w3 ⟨rfl,f3⟩;have l2:=kcJ (w:=wr.drew) f3 l2 hs0;have k2:=kcJ (w:=wr.drew) f3 k2 hs1;have x0:=kcJ (w:=wr.drew) f3 x0 hgw;have x1:=kcJ (w:=wr.drew) f3 x1 hgw;have x2:=kcJ (w:=wr.drew) f3 x2 hgw;have x3:=kcJ (w:=wr.drew) f3 x3 hgw;have x4:=kcJ (w:=wr.drew) f3 x4 hgw;have y0:=kcJ (w:=wr.drew) f3 y0 hgw';have y1:=kcJ (w:=wr.drew) f3 y1 hgw';have y2:=kcJ (w:=wr.drew) f3 y2 hgw';have y3:=kcJ (w:=wr.drew) f3 y3 hgw';have y4:=kcJ (w:=wr.drew) f3 y4 hgw'))
   have HF6:=Lib.hid (HF.out.trans (((Fr.refl [] wr).drew).trans f3))
   clear f3
   go_wp2_with fail
   go_roundw
   case rel=>exact⟨i+1,by first|rfl|simp|go_num,by omega,HF6⟩
   case measure=>simp[intOf];omega
  ·have q2:¬ (i:Int)<(args.length:Int):=by omega
   go_wp2_with fail
   have hw5:∃ w5,w5=wr:=⟨_,rfl⟩
   obtain⟨w5,hw5⟩:=hw5
   subst hw5
   go_loopw [6] (fun iv wr=>∃ (i:Nat),iv = .int .i64 i∧i≤fs.length∧Hid (Fr [] x wr)) (fun iv wr=>fs.length-(intOf iv).toNat)
   case atStart=>exact⟨0,rfl,by omega,HF⟩
   case round =>
    obtain⟨i,rfl,hi,HF⟩:=hrel
    clear l0 l1 l2 l3 l4 k0 k1 k2 k3 k4 hs0 hs1
    have j0:=HF.out.keep HG0.out (fun x=>by cases x)
    have j1:=HF.out.keep HG1.out (fun x=>by cases x)
    obtain⟨⟨l0,l1,l2,l3,l4⟩,_⟩:=cells5 j0
    obtain⟨⟨k0,k1,k2,k3,k4⟩,_⟩:=cells5 j1
    have hs0:=lt_of_heap j0
    have hs1:=lt_of_heap j1
    clear j0 j1
    have q1:(0:Int)≤(i:Int):=by omega
    by_cases hlt:i<fs.length
    ·have hx:fs[i]?=some fs[i]:=List.getElem?_eq_getElem hlt
     generalize fs[i]=f at hx
     have q2:(i:Int)<(fs.length:Int):=by omega
     obtain⟨g,og,rfl,hok,hg,Bf,df,Df,ef,hty,x0,x1,x2,x3,x4,x5,x6,x7⟩:=HFS.out.at hx
     obtain⟨g',og',rfl,hok',hg',Bg,dg,Dg,eg,hty',y0,y1,y2,y3,y4,y5,y6,y7⟩:=HFS'.out.at hx
     have fw:=HW.out.trans (HF0.out.trans HF.out)
     replace x0:=(fw.cell (p:=⟨g,og+i * 8,none⟩) hg (fun x=>by cases x)).trans x0
     replace x1:=(fw.cell (p:=⟨g,og+i * 8+1,none⟩) hg (fun x=>by cases x)).trans x1
     replace x2:=(fw.cell (p:=⟨g,og+i * 8+2,none⟩) hg (fun x=>by cases x)).trans x2
     replace x3:=(fw.cell (p:=⟨g,og+i * 8+3,none⟩) hg (fun x=>by cases x)).trans x3
     replace x4:=(fw.cell (p:=⟨g,og+i * 8+4,none⟩) hg (fun x=>by cases x)).trans x4
     replace x5:=(fw.cell (p:=⟨g,og+i * 8+5,none⟩) hg (fun x=>by cases x)).trans x5
     replace x6:=(fw.cell (p:=⟨g,og+i * 8+6,none⟩) hg (fun x=>by cases x)).trans x6
     replace x7:=(fw.cell (p:=⟨g,og+i * 8+7,none⟩) hg (fun x=>by cases x)).trans x7
     replace y0:=(fw.cell (p:=⟨g',og'+i * 8,none⟩) hg' (fun x=>by cases x)).trans y0
     replace y1:=(fw.cell (p:=⟨g',og'+i * 8+1,none⟩) hg' (fun x=>by cases x)).trans y1
     replace y2:=(fw.cell (p:=⟨g',og'+i * 8+2,none⟩) hg' (fun x=>by cases x)).trans y2
     replace y3:=(fw.cell (p:=⟨g',og'+i * 8+3,none⟩) hg' (fun x=>by cases x)).trans y3
     replace y4:=(fw.cell (p:=⟨g',og'+i * 8+4,none⟩) hg' (fun x=>by cases x)).trans y4
     replace y5:=(fw.cell (p:=⟨g',og'+i * 8+5,none⟩) hg' (fun x=>by cases x)).trans y5
     replace y6:=(fw.cell (p:=⟨g',og'+i * 8+6,none⟩) hg' (fun x=>by cases x)).trans y6
     replace y7:=(fw.cell (p:=⟨g',og'+i * 8+7,none⟩) hg' (fun x=>by cases x)).trans y7
     have hgw:g<wr.heap.size:=Nat.lt_of_lt_of_le hg fw.size
     have hgw':g' < wr.heap.size:=Nat.lt_of_lt_of_le hg' fw.size
     have hzN:rzT f.t<N:=by have:=rzFs_at hx;have:=HN.out;omega
     have f7:=((Fr.refl [] wr).alloc (.cells #[.string ⟨f.lb.toArray⟩,.int .i64 f.pr,.int .i64 f.p,.int .i64 f.t.k,.int .i64 f.t.v,.slice Bf f.t.args.length df,.slice Df f.t.fs.length ef,.int .i64 f.t.rest] 44)).alloc (.cells #[.string ⟨f.lb.toArray⟩,.int .i64 f.pr,.int .i64 f.p,.int .i64 f.t.k,.int .i64 f.t.v,.slice Bg f.t.args.length dg,.slice Dg f.t.fs.length eg,.int .i64 f.t.rest] 44)
     have p0:=heap_old (heap_new wr (.cells #[.string ⟨f.lb.toArray⟩,.int .i64 f.pr,.int .i64 f.p,.int .i64 f.t.k,.int .i64 f.t.v,.slice Bf f.t.args.length df,.slice Df f.t.fs.length ef,.int .i64 f.t.rest] 44)) (.cells #[.string ⟨f.lb.toArray⟩,.int .i64 f.pr,.int .i64 f.p,.int .i64 f.t.k,.int .i64 f.t.v,.slice Bg f.t.args.length dg,.slice Dg f.t.fs.length eg,.int .i64 f.t.rest] 44)
     have p1:=heap_new (wr.alloc (.cells #[.string ⟨f.lb.toArray⟩,.int .i64 f.pr,.int .i64 f.p,.int .i64 f.t.k,.int .i64 f.t.v,.slice Bf f.t.args.length df,.slice Df f.t.fs.length ef,.int .i64 f.t.rest] 44)) (.cells #[.string ⟨f.lb.toArray⟩,.int .i64 f.pr,.int .i64 f.p,.int .i64 f.t.k,.int .i64 f.t.v,.slice Bg f.t.args.length dg,.slice Dg f.t.fs.length eg,.int .i64 f.t.rest] 44)
     rw[World.size_alloc] at p1
     obtain⟨⟨m0,m1,m2,m3,m4,m5,m6,m7⟩,_⟩:=cells8 p0
     obtain⟨⟨r0,r1,r2,r3,r4,r5,r6,r7⟩,_⟩:=cells8 p1
     have hp0:=lt_of_heap p0
     have hp1:=lt_of_heap p1
     have n2:¬ wr.heap.size=wr.heap.size+1:=by omega
     have n3:¬ wr.heap.size+1=wr.heap.size:=by omega
     have cP:=fun X (hX:Fr [] wr X)=>Lib.hid (IH.out w X ok ok' P P' f.t Bf Df Bg Dg df ef dg eg hzN (fw.trans hX) (HL4.out f (List.mem_of_getElem? hx)) hty hty')
     have HF7:=Lib.hid f7
     clear hx hok hok' fw hzN hty hty' f7 p0 p1
     go_wp2_with fail
     refine(cP _ HF7.out).out.mono ?_
     rintro e w3 ⟨rfl,f3⟩
     have HF6:=Lib.hid (HF.out.trans (HF7.out.trans f3))
     clear f3
     go_wp2_with fail
     go_roundw
     case rel=>exact⟨i+1,by first|rfl|simp|go_num,by omega,HF6⟩
     case measure=>simp[intOf];omega
    ·have q2:¬ (i:Int)<(fs.length:Int):=by omega
     have HF8:=Lib.hid (HF0.out.trans HF.out)
     go_wp2_with fail
     go_ret
     exact⟨rfl,HF8.out⟩
theorem rsame_all:∀ N,RSC N
 | 0=>by intro _ _ _ _ _ _ _ _ _ _ _ _ _ _ _ h;exact absurd h (Nat.not_lt_zero _)
 | N+1=>rsame_step N (rsame_all N)
end
section
variable [LoB]
attribute [local instance] Ex.no
theorem lvars_any{w W:World}(hW:Fr [] w W){ok:Nat→Prop}{P:List UInt8→Prop}{t:TyT}{A B:Option Addr}{c d:Nat}(ht:TyAt w ok P t [.int .i64 t.k,.int .i64 t.v,.slice A t.args.length c,.slice B t.fs.length d,.int .i64 t.rest])(hs:szT t≤2000):
  Calls Tryz.prog 28 #[.agg #[.int .i64 t.k,.int .i64 t.v,.slice A t.args.length c,.slice B t.fs.length d,.int .i64 t.rest]] W fun e w'=>∃ b:Bool,e = .returned (.bool b)∧(b=true→∀ v ∈ gvT t [],v≤1099511627776)∧Fr [] W w':=by
 have f0:=(Fr.refl [] W).alloc (.cells #[.int .i64 t.k,.int .i64 t.v,.slice A t.args.length c,.slice B t.fs.length d,.int .i64 t.rest] 27)
 have g0:=heap_new W (.cells #[.int .i64 t.k,.int .i64 t.v,.slice A t.args.length c,.slice B t.fs.length d,.int .i64 t.rest] 27)
 obtain⟨⟨l0,l1,l2,l3,l4⟩,_⟩:=cells5 g0
 have hgs:=lt_of_heap g0
 have ht2:TyAt (W.alloc (.cells #[.int .i64 t.k,.int .i64 t.v,.slice A t.args.length c,.slice B t.fs.length d,.int .i64 t.rest] 27)) (· <(W.alloc (.cells #[.int .i64 t.k,.int .i64 t.v,.slice A t.args.length c,.slice B t.fs.length d,.int .i64 t.rest] 27)).heap.size) P t [.int .i64 t.k,.int .i64 t.v,.slice A t.args.length c,.slice B t.fs.length d,.int .i64 t.rest]:=ht.keep (fun b _ hlt=>by
  have hf:=hW.trans f0
  exact⟨Nat.lt_of_lt_of_le hlt hf.size,hf.block b hlt (fun x=>by cases x),Nat.lt_of_lt_of_le hlt hf.size⟩)
 have cV:=Lib.hid (rvars_all _ (W.alloc (.cells #[.int .i64 t.k,.int .i64 t.v,.slice A t.args.length c,.slice B t.fs.length d,.int .i64 t.rest] 27)) (W.alloc (.cells #[.int .i64 t.k,.int .i64 t.v,.slice A t.args.length c,.slice B t.fs.length d,.int .i64 t.rest] 27)) _ P t A B none c d 0 [] (Nat.lt_succ_self _) (Nat.le_refl _) (Below.refl _ _) ht2 (AppI.nil _ _) (by simp;omega))
 have HF:=Lib.hid f0
 have hln:=gvT_len t []
 clear ht hW ht2 f0 g0
 go_enter Tryz.func28,Tryz.ntmps28
 go_wp2_with fail
 generalize W.alloc (.cells #[.int .i64 t.k,.int .i64 t.v,.slice A t.args.length c,.slice B t.fs.length d,.int .i64 t.rest] 27)=x at *
 refine cV.out.mono ?_
 rintro e w6 ⟨X,cx,rfl,hst⟩
 have HI:=Lib.hid hst.app.ints
 have HF6:=Lib.hid (HF.out.trans (hst.fr.mono (fun x hx=>by have:=oB_mem.1 hx;cases this)))
 obtain⟨l,hl⟩:∃ l,l=gvT t []:=⟨_,rfl⟩
 rw[← hl] at HI hln ⊢
 have HLL:=Lib.hid hl
 have hll:l.length≤100000:=by simp at hln;omega
 clear hst cV hl hln
 go_wp2_with fail
 go_loopw [9] (fun iv wr=>∃ i:Nat,iv = .int .i64 i∧wr=w6∧i≤l.length∧Hid (∀ v ∈ l.take i,v≤1099511627776)) (fun iv wr=>l.length-(intOf iv).toNat)
 case atStart=>exact⟨0,rfl,rfl,by omega,Lib.hid (by simp)⟩
 case round =>
  obtain⟨i,rfl,rfl,hi,HV⟩:=hrel
  have q1:(0:Int)≤(i:Int):=by omega
  by_cases hlt:i<l.length
  ·have hx:l[i]?=some l[i]:=List.getElem?_eq_getElem hlt
   generalize l[i]=z at hx
   obtain⟨g,rfl,hg,x0⟩:=HI.out.at hx
   have q2:(i:Int)<(l.length:Int):=by omega
   have HX:=Lib.hid hx
   clear hx
   by_cases hz:1099511627776<z
   ·have q3:decide (1099511627776<z)=true:=by simp;omega
    go_wp2_with fail
    go_ret
    first|exact⟨false,rfl,fun c=>(by cases c),HF6.out⟩| exact .inl ⟨rfl,HF6.out⟩
   ·have q3:decide (1099511627776<z)=false:=by simp;omega
    have HV2:Hid (∀ v ∈ l.take (i+1),v≤1099511627776):=Lib.hid (fun v hv=>by
     rw[List.take_add_one,HX.out] at hv
     rcases List.mem_append.1 hv with c|c
     ·exact HV.out v c
     ·simp at c;omega)
    go_wp2_with fail
    go_roundw
    case rel=>exact⟨i+1,by first|rfl|simp|go_num,by first|rfl|trivial,by omega,HV2⟩
    case measure=>simp[intOf];omega
  ·have q2:¬ (i:Int)<(l.length:Int):=by omega
   rw[List.take_of_length_le (by omega)] at HV
   go_wp2_with fail
   go_ret
   have hv:=HV.out
   rw[HLL.out] at hv
   first|exact⟨true,rfl,fun _=>hv,HF6.out⟩| exact .inr ⟨rfl,hv,HF6.out⟩
theorem lsmall_any{w W:World}(hW:Fr [] w W){ok:Nat→Prop}{P:List UInt8→Prop}{t:TyT}{A B:Option Addr}{c d:Nat}(ht:TyAt w ok P t [.int .i64 t.k,.int .i64 t.v,.slice A t.args.length c,.slice B t.fs.length d,.int .i64 t.rest]):
  Calls Tryz.prog 9 #[.agg #[.int .i64 t.k,.int .i64 t.v,.slice A t.args.length c,.slice B t.fs.length d,.int .i64 t.rest]] W fun e w'=>∃ b:Bool,e = .returned (.bool b)∧(b=true→szT t≤2000∧∀ v ∈ gvT t [],v≤1099511627776)∧Fr [] W w':=by
 have f0:=(Fr.refl [] W).alloc (.cells #[.int .i64 t.k,.int .i64 t.v,.slice A t.args.length c,.slice B t.fs.length d,.int .i64 t.rest] 27)
 have g0:=heap_new W (.cells #[.int .i64 t.k,.int .i64 t.v,.slice A t.args.length c,.slice B t.fs.length d,.int .i64 t.rest] 27)
 obtain⟨⟨l0,l1,l2,l3,l4⟩,_⟩:=cells5 g0
 have hgs:=lt_of_heap g0
 have cP:=fun X (hX:Fr [] W X)=>Lib.hid (rparts_all _ w X ok P t A B c d 2000 (Nat.lt_succ_self _) (hW.trans hX) ht (by decide) (by decide))
 have cV:=fun X (hX:Fr [] W X) (hz:szT t≤2000)=>Lib.hid (lvars_any (hW.trans hX) ht hz)
 have HF:=Lib.hid f0
 have HG:=Lib.hid g0
 have HV:=Lib.hid cV
 clear ht hW f0 g0 cV
 go_enter Tryz.func9,Tryz.ntmps9
 go_wp2_with fail
 generalize W.alloc (.cells #[.int .i64 t.k,.int .i64 t.v,.slice A t.args.length c,.slice B t.fs.length d,.int .i64 t.rest] 27)=x at *
 refine(cP _ HF.out).out.mono ?_
 rintro e w6 ⟨n,rfl,hc,hn1,hn2,f6⟩
 have HF6:=Lib.hid (HF.out.trans f6)
 have j0:=f6.keep HG.out (fun x=>by cases x)
 clear l0 l1 l2 l3 l4 hgs cP
 obtain⟨⟨l0,l1,l2,l3,l4⟩,_⟩:=cells5 j0
 have hgs:=lt_of_heap j0
 have HC:=Lib.hid hc
 clear f6 j0 hc
 by_cases hn:n≤2000
 ·have q1:decide (n≤2000)=true:=by simp[hn]
  have hz:szT t≤2000:=by
   by_cases h:(szT t:Int)≤2000
   ·omega
   ·have:=HC.out.2 (by omega);omega
  have cV:=HV.out w6 HF6.out hz
  have HZ:=Lib.hid hz
  clear hz
  go_wp2_with fail
  refine cV.out.mono ?_
  rintro e w7 ⟨b,rfl,hb,f7⟩
  have HB:=Lib.hid hb
  have F7:=Lib.hid (HF6.out.trans f7)
  clear hb f7 cV
  cases b with
  | true =>
   go_wp2_with fail
   go_ret
   first|exact⟨true,rfl,fun _=>⟨HZ.out,HB.out (by first|rfl|trivial)⟩,F7.out⟩| exact .inr ⟨rfl,⟨HZ.out,HB.out (by first|rfl|trivial)⟩,F7.out⟩
  | false =>
   go_wp2_with fail
   go_ret
   first|exact⟨false,rfl,fun c=>(by cases c),F7.out⟩| exact .inl ⟨rfl,F7.out⟩
 ·have q1:decide (n≤2000)=false:=by simp;omega
  go_wp2_with fail
  go_ret
  first|exact⟨false,rfl,fun c=>(by cases c),HF6.out⟩| exact .inl ⟨rfl,HF6.out⟩
theorem lfun_any{w:World}{ok:Nat→Prop}{P:List UInt8→Prop}{a b:TyT}{A B A' B':Option Addr}{c d c' d':Nat}(ha:TyAt w ok P a [.int .i64 a.k,.int .i64 a.v,.slice A a.args.length c,.slice B a.fs.length d,.int .i64 a.rest])(hb:TyAt w ok P b [.int .i64 b.k,.int .i64 b.v,.slice A' b.args.length c',.slice B' b.fs.length d',.int .i64 b.rest]):
  Calls Tryz.prog 18 #[.agg #[.int .i64 a.k,.int .i64 a.v,.slice A a.args.length c,.slice B a.fs.length d,.int .i64 a.rest],.agg #[.int .i64 b.k,.int .i64 b.v,.slice A' b.args.length c',.slice B' b.fs.length d',.int .i64 b.rest]] w fun e w'=>∃ X:Option Addr,e = .returned (.agg #[.int .i64 7,.int .i64 0,.slice X 2 2,.slice none 0 0,.int .i64 0])∧TyAt w' (fun g=>(ok g∧g<w.heap.size)∨(w.heap.size≤g∧okW w' g)) P (fnT a b) [.int .i64 7,.int .i64 0,.slice X 2 2,.slice none 0 0,.int .i64 0]∧Fr [] w w':=by
 have f0:=((((Fr.refl [] w).alloc (.cells #[.int .i64 a.k,.int .i64 a.v,.slice A a.args.length c,.slice B a.fs.length d,.int .i64 a.rest] 27)).alloc (.cells #[.int .i64 b.k,.int .i64 b.v,.slice A' b.args.length c',.slice B' b.fs.length d',.int .i64 b.rest] 27)).alloc (.cells #[.int .i64 7,.int .i64 0,.slice (some ⟨w.heap.size+1+1+1,0,none⟩) 2 2,.slice none 0 0,.int .i64 0] 27)).alloc (.cells #[.int .i64 a.k,.int .i64 a.v,.slice A a.args.length c,.slice B a.fs.length d,.int .i64 a.rest,.int .i64 b.k,.int .i64 b.v,.slice A' b.args.length c',.slice B' b.fs.length d',.int .i64 b.rest] 27)
 have g2:=heap_old (heap_new ((w.alloc (.cells #[.int .i64 a.k,.int .i64 a.v,.slice A a.args.length c,.slice B a.fs.length d,.int .i64 a.rest] 27)).alloc (.cells #[.int .i64 b.k,.int .i64 b.v,.slice A' b.args.length c',.slice B' b.fs.length d',.int .i64 b.rest] 27)) (.cells #[.int .i64 7,.int .i64 0,.slice (some ⟨w.heap.size+1+1+1,0,none⟩) 2 2,.slice none 0 0,.int .i64 0] 27)) (.cells #[.int .i64 a.k,.int .i64 a.v,.slice A a.args.length c,.slice B a.fs.length d,.int .i64 a.rest,.int .i64 b.k,.int .i64 b.v,.slice A' b.args.length c',.slice B' b.fs.length d',.int .i64 b.rest] 27)
 have g3:=heap_new (((w.alloc (.cells #[.int .i64 a.k,.int .i64 a.v,.slice A a.args.length c,.slice B a.fs.length d,.int .i64 a.rest] 27)).alloc (.cells #[.int .i64 b.k,.int .i64 b.v,.slice A' b.args.length c',.slice B' b.fs.length d',.int .i64 b.rest] 27)).alloc (.cells #[.int .i64 7,.int .i64 0,.slice (some ⟨w.heap.size+1+1+1,0,none⟩) 2 2,.slice none 0 0,.int .i64 0] 27)) (.cells #[.int .i64 a.k,.int .i64 a.v,.slice A a.args.length c,.slice B a.fs.length d,.int .i64 a.rest,.int .i64 b.k,.int .i64 b.v,.slice A' b.args.length c',.slice B' b.fs.length d',.int .i64 b.rest] 27)
 rw[World.size_alloc,World.size_alloc] at g2
 rw[World.size_alloc,World.size_alloc,World.size_alloc] at g3
 have a0:=heap_old (heap_old (heap_new w (.cells #[.int .i64 a.k,.int .i64 a.v,.slice A a.args.length c,.slice B a.fs.length d,.int .i64 a.rest] 27)) (.cells #[.int .i64 b.k,.int .i64 b.v,.slice A' b.args.length c',.slice B' b.fs.length d',.int .i64 b.rest] 27)) (.cells #[.int .i64 0,.int .i64 0,.slice none 0 0,.slice none 0 0,.int .i64 0] 27)
 have a1:=heap_old (heap_new (w.alloc (.cells #[.int .i64 a.k,.int .i64 a.v,.slice A a.args.length c,.slice B a.fs.length d,.int .i64 a.rest] 27)) (.cells #[.int .i64 b.k,.int .i64 b.v,.slice A' b.args.length c',.slice B' b.fs.length d',.int .i64 b.rest] 27)) (.cells #[.int .i64 0,.int .i64 0,.slice none 0 0,.slice none 0 0,.int .i64 0] 27)
 rw[World.size_alloc] at a1
 obtain⟨⟨l0,l1,l2,l3,l4⟩,_⟩:=cells5 a0
 obtain⟨⟨k0,k1,k2,k3,k4⟩,_⟩:=cells5 a1
 obtain⟨⟨r0,r1,r2,r3,r4⟩,_⟩:=cells5 g2
 have hs0:=lt_of_heap a0
 have hs1:=lt_of_heap a1
 have HA:=Lib.hid ha
 have HB:=Lib.hid hb
 have HF:=Lib.hid f0
 have HG3:=Lib.hid g3
 clear ha hb f0 a0 a1 g2 g3
 go_enter Tryz.func18,Tryz.ntmps18
 go_wp2_with fail
 refine bodyPost_ret (v:=.agg #[.int .i64 7,.int .i64 0,.slice (some ⟨w.heap.size+1+1+1,0,none⟩) 2 2,.slice none 0 0,.int .i64 0]) ?_ rfl ?_
 ·simp[results,Tryz.f18,go_sem,r0,r1,r2,r3,r4]
 ·refine⟨some ⟨w.heap.size+1+1+1,0,none⟩,rfl,?_,HF.out⟩
  refine TyAt.iff.2 ⟨_,_,rfl,⟨fun i=>if i=0 then [.int .i64 a.k,.int .i64 a.v,.slice A a.args.length c,.slice B a.fs.length d,.int .i64 a.rest] else [.int .i64 b.k,.int .i64 b.v,.slice A' b.args.length c',.slice B' b.fs.length d',.int .i64 b.rest],.inr ⟨w.heap.size+1+1+1,0,2,rfl,.inr ⟨by omega,⟨_,_,_,HG3.out,fun c=>absurd c (by decide),fun c=>c.elim⟩⟩,lt_of_heap HG3.out,Nat.le_refl _,fun i hi=>?_⟩,fun i x hx=>?_⟩,FsAt.nil _ _⟩
  ·have hc:=fun o=>cell_of HG3.out o
   have hi2:i<2:=hi
   by_cases h0:i=0
   ·subst h0
    refine⟨rfl,fun j v hv=>?_⟩
    have hj:j<5:=(List.getElem?_eq_some_iff.1 hv).1
    rw[show 0+0 * 5+j=j by omega,hc j]
    rcases(show j=0∨j=1∨j=2∨j=3∨j=4 by omega)with rfl|rfl|rfl|rfl|rfl <;> exact hv
   ·have h1:i=1:=by omega
    subst h1
    refine⟨rfl,fun j v hv=>?_⟩
    have hj:j<5:=(List.getElem?_eq_some_iff.1 hv).1
    rw[show 0+1 * 5+j=5+j by omega,hc (5+j)]
    rcases(show j=0∨j=1∨j=2∨j=3∨j=4 by omega)with rfl|rfl|rfl|rfl|rfl <;> exact hv
  ·by_cases h0:i=0
   ·subst h0
    have hx:some a=some x:=hx
    cases hx
    exact HA.out.keep (fun b hb hlt=>⟨.inl ⟨hb,hlt⟩,HF.out.block b hlt (fun x=>by cases x),Nat.lt_of_lt_of_le hlt HF.out.size⟩)
   ·have h1:i=1:=by
     have:=(List.getElem?_eq_some_iff.1 hx).1
     simp at this;omega
    subst h1
    have hx:some b=some x:=hx
    cases hx
    exact HB.out.keep (fun b hb hlt=>⟨.inl ⟨hb,hlt⟩,HF.out.block b hlt (fun x=>by cases x),Nat.lt_of_lt_of_le hlt HF.out.size⟩)
end
end
theorem argN_var{n:Nat}(h:argN 1=some n):n=0:=by
 simp[argN] at h;exact h.symm
theorem argN_row{k:Int}{n:Nat}(hk:rwd k=true)(h:argN k=some n):n=0:=by
 unfold rwd at hk
 rw[Bool.or_eq_true,beq_iff_eq,beq_iff_eq] at hk
 rcases hk with rfl|rfl <;>(simp[argN] at h;exact h.symm)
theorem ChainR.un{R:Raw}{s:Sub}(h:Rep R s)(hs:s.ok){r e:Int}{l:List Fd}(hl:ChainR R r l e):s.rw e=([],e):=by
 induction hl with
 | stop hr =>
  rcases hr with c|c
  ·rw[c];exact hs
  ·exact h.rw0 _ c
 | go _ _ _ ih=>exact ih
end Go.Proofs.YtoimdiballicnaaGreatDoor
