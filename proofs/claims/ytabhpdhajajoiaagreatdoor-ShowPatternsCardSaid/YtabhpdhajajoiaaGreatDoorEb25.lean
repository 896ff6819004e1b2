/- A part of the proof: Hj, Hm, Vt, Vu, Vq, Vw. -/
import Derived.Defers
import Derived.Recover
import Derived.Laws.Pointers
import Derived.Test.YtabhpdhajajoiaaGreatDoorEb24
namespace Go.Proofs.YtabhpdhajajoiaaGreatDoor
open Go.RowKit
open _root_.Go.Proofs.Tryz
set_option linter.all false
set_option maxHeartbeats 16000000
set_option maxRecDepth 100000
open Nat renaming lt_of_lt_of_le→Nl',le_refl→Nr'
def TL(t:Tok):Prop:=t.text.length≤4096∧0≤t.n∧t.n≤4611686018427387903
def SPreP:PNT→Prop
 | .marked x=>SwP x
 | .recL _ ls args=>(∀ x ∈ ls,x.length≤65536)∧Qw args
 | _=>True
def SPreE:NT→Prop
 | .armsL _ _ x acc=>SwE x∧Ny acc
 | .sumL a=>SwE a
 | .prodL a=>SwE a
 | .opL n _ _ acc=>inN n∧Im acc
 | .appL a=>SwE a
 | .postL a=>SwE a
 | .recL _ ls args=>(∀ x ∈ ls,x.length≤65536)∧Im args
 | _=>True
def swt:Cmd→Prop
 | .retE x=>SwE x
 | .retP x=>SwP x
 | .look k=>∀ t,TL t→swt (k t true)
 | .ahead k=>∀ n,swt (k n)
 | .adv k=>swt k
 | .fail _=>True
 | .callE nt k=>SPreE nt∧∀ x,SwE x→swt (k x)
 | .callP nt k=>SPreP nt∧∀ x,SwP x→swt (k x)
theorem Cb{p:Prop} [Decidable p] {c d:Cmd}(h1:p→swt c)(h2:¬ p→swt d):swt (if p then c else d):=by
 split
 ·exact h1 (by assumption)
 ·exact h2 (by assumption)
theorem Vy{s:LB}{k:Bool→Cmd}(h1:swt (k true))(h2:swt (k false)):swt (Cl s k):=fun _ _=>Cb (fun _=>h1) (fun _=>h2)
theorem C0{s:LB}{c d:Cmd}(h1:swt c)(h2:swt d):swt (Cl s fun b=>if b=true then c else d):=Vy h1 h2
theorem Cy{s:LB}{c:Cmd}(h:swt c):swt (Bv s c):=fun _ _=>Cb (fun _=>h) (fun _=>trivial)
theorem H2{k:LB→Cmd}(h:∀ s,s.length≤65536→swt (k s)):swt (Fv k):=fun t ht=>Cb (fun _=>h _ (by have:=ht.1;omega)) (fun _=>trivial)
theorem swt_is{l:List LB}{k:Bool→Cmd}(h:∀ c,swt (k c)):swt (isC l k):=fun _ _=>h _
theorem Kj{k a:Int}{l:List Ab}(h:Im l):SwE (D4 k a l):=⟨⟨by simp,by constructor <;> omega,by simp,by simp⟩,h,trivial⟩
theorem Nv{n a:Int}{l:List Ab}(hn:inN n)(h:Im l):SwE (opE n a l):=⟨⟨by simp,hn,by simp,by simp⟩,h,trivial⟩
theorem Jb{k a:Int}{nm:LB}{l:List Ab}{m:List (Ak×Ab)}(hn:nm.length≤65536)(h:Im l)(hm:Ny m):SwE (.mk k a nm 0 [] [] l m):=⟨⟨hn,by constructor <;> omega,by simp,by simp⟩,h,hm⟩
theorem Y6{l:List LB}{x:LB}(h:∀ y ∈ l,y.length≤65536)(hx:x.length≤65536):∀ y ∈ l++[x],y.length≤65536:=fun y hy=>by
 rcases List.mem_append.1 hy with hy|hy
 ·exact h y hy
 ·rw[List.mem_singleton] at hy;rw[hy];exact hx
theorem Mo(s:LB):inN (A1 s):=by
 unfold A1
 repeat' split
 all_goals constructor <;> decide
theorem Zz(s:LB):inN (Bb s).1:=by
 unfold Bb
 repeat' split
 all_goals constructor <;> decide
theorem Ga{n:Int}(h:n=0∨n=1∨n=6∨n=9∨n=11∨n=12):inN n:=by constructor <;> omega
theorem swtP(nt:PNT)(hp:SPreP nt):swt (Cn nt):=by
 cases nt with
 | pat=>exact fun t ht=>Cb (fun _=>⟨trivial,fun x hx=>⟨⟨by have:=ht.1;omega,Ga (.inl rfl),by simp,by simp⟩,hx,trivial⟩⟩) (fun _=>⟨trivial,fun x hx=>hx⟩)
 | patom =>
  refine fun t ht=>Cb (fun h=>by cases h) (fun _=>Cb (fun _=>?_) (fun _=>Cb (fun _=>?_) (fun _=>Cb (fun _=>?_) (fun _=>Cb (fun _=>?_) (fun _=>⟨?_,fun x hx=>hx⟩)))))
  ·show SwP _;split <;> exact⟨⟨by first|simp|(have:=ht.1;omega),Ga (.inl rfl),by simp,by simp⟩,trivial⟩
  ·exact⟨⟨by have:=ht.1;omega,Ga (.inl rfl),by simp,by simp⟩,trivial⟩
  ·exact⟨⟨by simp,⟨by have:=ht.2;omega,by have:=ht.2;omega⟩,by simp,by simp⟩,trivial⟩
  ·exact⟨⟨by simp,Ga (.inl rfl),by have:=ht.1;omega,by simp⟩,trivial⟩
  ·exact⟨⟨by simp,Ga (.inl rfl),by simp,by simp⟩,trivial⟩
 | marked x =>
  obtain⟨k,a,nm,n,s,ls,args⟩:=x;obtain⟨⟨h1,h2,h3,h4⟩,h5⟩:=hp;unfold Cn;refine C0 ?_ (C0 ?_ (C0 ?_ (C0 ?_ (C0 ?_ trivial))))
  ·refine fun t ht=>Cb (fun _=>Cb (fun _=>?_) (fun h=>absurd rfl h)) (fun _=>trivial)
   have e:wrap64 (-t.n)= -t.n:=IntWalk.wrap64_in _ (by have:=ht.2;omega);show SwP _;rw[e];exact⟨⟨h1,⟨by have:=ht.2;omega,by have:=ht.2;omega⟩,h3,h4⟩,h5⟩
  ·exact⟨⟨h1,Ga (by simp),h3,h4⟩,h5⟩
  ·exact⟨⟨h1,h2,h3,h4⟩,h5⟩
  ·exact C0 ⟨⟨h1,h2,h3,h4⟩,h5⟩ ⟨trivial,fun x hx=>Cy hx⟩
  ·exact C0 ⟨⟨h1,h2,h3,h4⟩,h5⟩ (fun t ht=>Cb (fun _=>⟨⟨h4,h5⟩,fun x hx=>hx⟩) (fun h=>absurd rfl h))
 | recL a ls args =>
  obtain⟨h4,h5⟩:=hp;unfold Cn;exact H2 fun s hs=>Cy ⟨trivial,fun x hx=>C0 ⟨⟨Y6 h4 hs,h5.app hx⟩,fun y hy=>hy⟩ (Cy ⟨⟨by simp,Ga (.inl rfl),by simp,Y6 h4 hs⟩,h5.app hx⟩)⟩
theorem swtE(nt:NT)(hp:SPreE nt):swt (body nt):=by
 cases nt with
 | seq=>exact⟨trivial,fun x hx t ht=>C0 ⟨trivial,fun y hy=>Kj ⟨hx,hy,trivial⟩⟩ hx⟩
 | item =>
  refine fun t ht=>C0 ?_ (swt_is fun c=>Cb (fun _=>⟨trivial,fun x hx=>hx⟩) (fun _=>C0 ⟨trivial,fun x hx=>hx⟩ (C0 ⟨trivial,fun x hx=>hx⟩ (C0 ?_ (C0 ?_ ?_)))))
  ·refine Vy ?_ ?_
   ·exact H2 fun s hs=>Cy ⟨trivial,fun x hx=>Cy ⟨trivial,fun y hy=>Jb hs ⟨hx,hy,trivial⟩ trivial⟩⟩
   ·exact H2 fun s hs=>Cy ⟨trivial,fun x hx=>Cy ⟨trivial,fun y hy=>Jb hs ⟨hx,hy,trivial⟩ trivial⟩⟩
  ·exact⟨trivial,fun x hx=>Cy ⟨trivial,fun y hy=>Cy ⟨trivial,fun z hz=>Kj ⟨hx,hy,hz,trivial⟩⟩⟩⟩
  ·exact⟨trivial,fun x hx=>Kj ⟨hx,trivial⟩⟩
  ·exact⟨trivial,fun x hx t ht=>C0 ⟨trivial,fun y hy=>Nv (Ga (by simp)) ⟨hx,hy,trivial⟩⟩ hx⟩
 | fn=>exact fun t ht=>Cy (H2 fun s hs=>Cy ⟨trivial,fun x hx=>Jb hs ⟨hx,trivial⟩ trivial⟩)
 | arms k a=>exact⟨trivial,fun x hx=>Cy fun t ht=>Cb (fun _=>⟨⟨hx,trivial⟩,fun y hy=>hy⟩) (fun h=>absurd rfl h)⟩
 | armsL k a x acc=>exact⟨trivial,fun p hpx=>Cy ⟨trivial,fun y hy=>C0 ⟨⟨hp.1,hp.2.app hpx hy⟩,fun z hz=>hz⟩ (Cy (Jb (by simp) ⟨hp.1,trivial⟩ (hp.2.app hpx hy)))⟩⟩
 | or=>exact⟨trivial,fun x hx t ht=>C0 ⟨trivial,fun y hy=>Kj ⟨hx,hy,trivial⟩⟩ hx⟩
 | and=>exact⟨trivial,fun x hx t ht=>C0 ⟨trivial,fun y hy=>Kj ⟨hx,hy,trivial⟩⟩ hx⟩
 | cmp=>exact⟨trivial,fun x hx t ht=>Cb (fun _=>⟨trivial,fun y hy=>Nv (Mo _) ⟨hx,hy,trivial⟩⟩) (fun _=>hx)⟩
 | sum=>exact⟨trivial,fun x hx=>⟨hx,fun y hy=>hy⟩⟩
 | sumL a=>exact fun t ht=>Cb (fun _=>⟨trivial,fun x hx=>⟨Nv (a:=0) (Mo _) ⟨hp,hx,trivial⟩,fun y hy=>hy⟩⟩) (fun _=>hp)
 | prod=>exact⟨trivial,fun x hx=>⟨hx,fun y hy=>hy⟩⟩
 | prodL a=>exact fun t ht=>Cb (fun _=>⟨trivial,fun x hx=>⟨Nv (a:=0) (Mo _) ⟨hp,hx,trivial⟩,fun y hy=>hy⟩⟩) (fun _=>hp)
 | unary=>exact fun t ht=>C0 ⟨trivial,fun x hx=>Nv (Ga (by simp)) ⟨hx,trivial⟩⟩ (C0 ⟨trivial,fun x hx=>Nv (Ga (by simp)) ⟨hx,trivial⟩⟩ ⟨trivial,fun x hx=>hx⟩)
 | app=>exact fun t ht=>Cb (fun _=>⟨trivial,fun x hx=>Jb (by have:=ht.1;omega) ⟨hx,trivial⟩ trivial⟩) (fun _=>Cb (fun _=>⟨⟨Zz _,trivial⟩,fun x hx=>hx⟩) (fun _=>⟨trivial,fun x hx=>⟨hx,fun y hy=>hy⟩⟩))
 | opL n a m acc =>
  cases m with
  | zero=>exact Nv hp.1 hp.2
  | succ m=>exact⟨trivial,fun x hx=>⟨⟨hp.1,hp.2.app hx⟩,fun y hy=>hy⟩⟩
 | appL a=>exact fun t ht=>Cb (fun _=>⟨trivial,fun x hx=>⟨Kj (k:=0) (a:=0) ⟨hp,hx,trivial⟩,fun y hy=>hy⟩⟩) (fun _=>hp)
 | post=>exact fun t ht=>C0 ⟨trivial,fun x hx=>Nv (Ga (by simp)) ⟨hx,trivial⟩⟩ ⟨trivial,fun x hx=>⟨hx,fun y hy=>hy⟩⟩
 | postL a=>exact fun t ht=>Cb (fun _=>H2 (k:=fun nm => .callE (.postL (.mk 14 t.at' nm 0 [] [] [a] [])) .retE) (fun s hs=>⟨Jb (k:=0) (a:=0) hs ⟨hp,trivial⟩ trivial,fun y hy=>hy⟩)) (fun _=>hp)
 | atom =>
  refine fun t ht=>Cb (fun _=>?_) (fun _=>trivial)
  have hx:=ht.1;refine Cb (fun _=>Jb (by omega) trivial trivial) fun _=>Cb (fun _=>Jb (by omega) trivial trivial) fun _=>Cb (fun _=>?_) fun _=>Cb (fun _=>?_) fun _=>Cb (fun _=>?_) fun _=>Cb (fun _=>Jb (by simp) trivial trivial) fun _=>Cb (fun _=>⟨trivial,fun x hx=>hx⟩) fun _=>?_
  ·exact⟨⟨by simp,⟨by have:=ht.2;omega,by have:=ht.2;omega⟩,by simp,by simp⟩,trivial,trivial⟩
  ·exact⟨⟨by simp,Ga (.inl rfl),by omega,by simp⟩,trivial,trivial⟩
  ·exact⟨⟨by simp,Ga (by simp),by simp,by simp⟩,trivial,trivial⟩
  ·exact C0 (Jb (by simp) trivial trivial) ⟨trivial,fun x hx=>Cy hx⟩
 | braces a =>
  unfold body
  refine C0 (Jb (by simp) trivial trivial) fun n t ht=>Cb (fun _=>Cb (fun _=>⟨⟨by simp,trivial⟩,fun x hx=>hx⟩) (fun h=>absurd rfl h)) (fun _=>⟨trivial,fun x hx=>Cy (H2 fun s hs=>Cy ⟨trivial,fun y hy=>Cy (Jb hs ⟨hx,hy,trivial⟩ trivial)⟩)⟩)
 | recL a ls args =>
  unfold body;exact H2 fun s hs=>Cy ⟨trivial,fun x hx=>C0 ⟨⟨Y6 hp.1 hs,hp.2.app hx⟩,fun y hy=>hy⟩ (Cy ⟨⟨by simp,Ga (.inl rfl),by simp,Y6 hp.1 hs⟩,hp.2.app hx,trivial⟩)⟩
def swR:Rs→Prop
 | .e x=>SwE x
 | .p x=>SwP x
theorem Run.sw{ts:List Tok}(hG:∀ (j:Nat)(t:Tok),ts[j]?=some t→TL t){c:Cmd}{st:St}{r:Rs}{st':St}(h:Run ts c st r st'):swt c→st'.ok=true→swR r:=by
 induction h with
 | retE=>intro hw _;exact hw
 | retP=>intro hw _;exact hw
 | look h hk ih=>intro hw hok;have:=hk.grows.2 hok;exact ih (by rw[this];exact hw _ (hG _ _ h)) hok
 | ahead h hk ih=>intro hw hok;exact ih (hw _) hok
 | adv hk ih=>intro hw hok;exact ih hw hok
 | fail hk ih=>intro hw hok;have:=hk.grows.2 hok;cases this
 | @callE nt k st x st1 r st' h hk ih1 ih2=>intro hw hok;exact ih2 (hw.2 x (ih1 (swtE nt hw.1) (hk.grows.2 hok))) hok
 | @callP nt k st x st1 r st' h hk ih1 ih2=>intro hw hok;exact ih2 (hw.2 x (ih1 (swtP nt hw.1) (hk.grows.2 hok))) hok
theorem lex_tl{s:LB}{ts:List Tok}(h:Da s = .ok ts):∀ (j:Nat)(t:Tok),ts[j]?=some t→TL t:=by
 intro j t ht;have h1:=(L4 h).2.2.2.1 t (List.mem_of_getElem? ht);exact⟨h1.x,h1.n0,h1.n1⟩
theorem pr_sw{s:LB}{x:Ab}{p:Int}(h:PR s x 0 p):SwE x:=by
 cases h with
 | lexErr h=>rcases Ms h with⟨_,h,_⟩| ⟨_,_,h,_⟩<;> omega
 | ok hl hr ht hok hend hm hd=>exact hr.sw (lex_tl hl) (swtE .seq trivial) hok
def E0(may:Bool)(t:LB):LB×Int:=if may=true then (if 4096<t.length then ([],4)else (t,0))else ([],5)
def Fl(x:Ab):LB×Int:=if 4096<szE x then ([],3)else if (Dz 200 x).isSome=true then ([],22)else E0 (Be x) (txE x)
def Kw(p:Ak):Ab:=.mk 0 0 [] 0 [] [] [] [(p,.mk 0 0 [] 0 [] [] [] [])]
def Ij(p:Ak):LB×Int:=if 4098<szE (Kw p)then ([],3)else if (Dz 201 (Kw p)).isSome=true then ([],22)else E0 (Ct p) (txP p)
theorem V9{m:Bool}{x t:LB}(h:E0 m x=(t,0)):t=x∧m=true∧x.length≤4096:=by
 unfold E0 at h;split at h
 ·split at h
  ·cases h
  ·cases h;exact⟨rfl,by assumption,by omega⟩
 ·cases h
section
attribute [local go_sem ↓] Go.wp_at_zero Go.wp_at_succ
theorem Ia(p q:Nat)(w:World):
  CallsD prog 55 #[.pointer (some ⟨p,0,none⟩),.pointer (some ⟨q,0,none⟩)] .returning w fun e u' w'=>e = .returned (.tuple #[])∧u' = .returning∧w'=w:=by
 have hnil:∀ w:World,(binOp BinOp.eql 20 .nilIface .nilIface).run prog w = .ok (.bool true) w:=fun _=>by kernel_rfl
 refine callsD_of_wpS func55 rfl fun c₀ cs hu=>?_
 apply wpS_seq;apply wpS_region;simp[wpOpsS,go_sem,recoverD,hu,ntmps55,Exit.thenS];refine wpS_of_wp ?_;show Code.wp _ _ _ { tmps:=#[.pointer (some ⟨p,0,none⟩),.pointer (some ⟨q,0,none⟩),undef,undef,undef,undef,undef,.nilIface,undef,undef,undef,undef,undef,undef,undef,undef,undef,undef,undef],defers:=[] } w;refine wp_mono (Q:=fun e a' w'=>e = .normal∧a'.defers=[]∧w'=w) ?_ ?_
 ·go_wp2_with fail
 ·rintro e a' w' ⟨rfl,h0,rfl⟩;cases c₀;simp_all [bodyPostS,results,Tryz.results55,Exit.thenS]
theorem Nj(p q:Nat)(w:World)(hp:w.heap[p]?=some (.cells #[.string ⟨#[]⟩] 9 (0,0)))(hq:w.heap[q]?=some (.cells #[.int .i64 0] 28 (0,0)))(hne:p≠q):
  CallsD prog 55 #[.pointer (some ⟨p,0,none⟩),.pointer (some ⟨q,0,none⟩)] (.panicking fl) w fun e u' w'=>e = .returned (.tuple #[])∧u' = .panicking (fl.map fun x=>{ x with recovered:=true })∧Fr [p,q] w w'∧w'.heap[p]?=some (.cells #[.string ⟨#[]⟩] 9 (0,0))∧w'.heap[q]?=some (.cells #[.int .i64 5] 28 (0,0)):=by
 have hta:∀ w:World,(Instr.typeAssert (.iface 150 (.agg #[.int .i64 5])) 20 150 true).run prog w = .ok (.tuple #[.agg #[.int .i64 5],.bool true]) w:=fun _=>by kernel_rfl
 refine callsD_of_wpS func55 rfl fun c₀ cs hu=>?_
 apply wpS_seq;apply wpS_region;simp[wpOpsS,go_sem,recoverD,hu,fl,ntmps55,Exit.thenS];refine wpS_of_wp ?_;show Code.wp _ _ _ { tmps:=#[.pointer (some ⟨p,0,none⟩),.pointer (some ⟨q,0,none⟩),undef,undef,undef,undef,undef,.iface 150 (.agg #[.int .i64 5]),undef,undef,undef,undef,undef,undef,undef,undef,undef,undef,undef],defers:=[] } w;refine wp_mono (Q:=fun e a' w'=>e = .normal∧a'.defers=[]∧Fr [p,q] w w'∧w'.heap[p]?=some (.cells #[.string ⟨#[]⟩] 9 (0,0))∧w'.heap[q]?=some (.cells #[.int .i64 5] 28 (0,0))) ?_ ?_
 ·go_wp2_with fail;have hX:=Ad w (.cells #[.int .i64 5] 150);have c5:(w.alloc (.cells #[.int .i64 5] 150)).cell? ⟨w.heap.size,0,none⟩=some (.int .i64 5):=Ae hX 0;have hp1:=Aa hp;have hq1:=Aa hq;have cp:w.cell? ⟨p,0,none⟩=some (.string ⟨#[]⟩):=Ae hp 0;have cq:w.cell? ⟨q,0,none⟩=some (.int .i64 0):=Ae hq 0;have fp:=Ap hp 0;have fq:=Ap hq 0;have hne':¬ q=p:=fun e=>hne e.symm
  go_region
  have h1:=Bn hp 0 (.string ⟨#[]⟩);have h2:((w.setCell ⟨p,0,none⟩ (.string ⟨#[]⟩)).setCell ⟨q,0,none⟩ (.int .i64 5)).heap[p]?=_:=(Below.heap_setCell _ ⟨q,0,none⟩ _ p hne).trans h1;have h3:=Bn ((Below.heap_setCell w ⟨p,0,none⟩ (.string ⟨#[]⟩) q (Ne.symm hne)).trans hq) 0 (.int .i64 5);exact⟨rfl,rfl,((((Fr.refl [p,q] w).setCell (.inl (by simp)) _).setCell (.inl (by simp)) _).alloc _).drew,Af h2 _,Af h3 _⟩
 ·rintro e a' w' ⟨rfl,h0,h1,h2,h3⟩;cases c₀;simp_all [bodyPostS,results,Tryz.results55,Exit.thenS]
theorem WB.fresh(w:World):WB w w.heap.size [] [] (w.alloc (.cells #[.pointer none,.slice none 0 0] TW)):=
 ⟨none,Jd.fresh TW w,(fun _ h=>by cases h),Nr' _,(Fr.refl [] w).alloc _,(fun _ _ h=>by cases h)⟩
theorem toldE_any(T:Nat)(t:List UInt8)(O:Bool)(w:World)(ht0:O=true→t≠[])(hc:∀ w2,Fr [] w w2→∀ P wr,WB w2 P [] [] wr→Calls prog 37 #[.pointer (some ⟨P,0,none⟩),.pointer (some ⟨T,0,none⟩)] wr (Sd w2 P [] t O)):
  Calls prog 29 #[.func (.func 37) #[] #[.pointer (some ⟨T,0,none⟩)]] w fun e w'=>e = .returned (.tuple #[.string ⟨(E0 O t).1.toArray⟩,.int .i64 (E0 O t).2])∧Fr [] w w':=by
 have HC:=Lib.hid hc;have HT0:=Lib.hid ht0;clear hc ht0
 go_enter_defers func29,ntmps29
 go_wp2_with fail;have f2:Fr [] w ((w.alloc (.cells #[.string ⟨#[]⟩] 9)).alloc (.cells #[.int .i64 0] 28)):=((Fr.refl [] w).alloc _).alloc _;have q0:=Af (Ad w (.cells #[.string ⟨#[]⟩] 9)) (.cells #[.int .i64 0] 28);have q1:=Ad (w.alloc (.cells #[.string ⟨#[]⟩] 9)) (.cells #[.int .i64 0] 28);have hb:=WB.fresh ((w.alloc (.cells #[.string ⟨#[]⟩] 9)).alloc (.cells #[.int .i64 0] 28));rw[show(w.alloc (.cells #[.string ⟨#[]⟩] 9)).heap.size=w.heap.size+1 by simp] at q1;have hP:((w.alloc (.cells #[.string ⟨#[]⟩] 9)).alloc (.cells #[.int .i64 0] 28)).heap.size=w.heap.size+1+1:=by simp
 rw[hP] at hb
 generalize hw2:(w.alloc (.cells #[.string ⟨#[]⟩] 9)).alloc (.cells #[.int .i64 0] 28)=w2 at *
 have hT:=Aa q1
 generalize hB:w.heap.size=B at *
 refine(HC.out _ f2 _ _ hb).mono ?_;clear hb;rintro e w3 (⟨rfl,rfl,hb⟩| ⟨rfl,rfl,hf⟩)
 ·go_wp2_with fail;refine hb.len.mono ?_;rintro e w4 ⟨rfl,rfl⟩;have hf:=hb.frame
  by_cases hl:(4096:Int)<(t.length:Int)
  ·have eR:E0 true t=([],4):=by simp[E0];omega
   have k0:=hf.keep q0 nE;have k1:=hf.keep q1 nE;have c0:=Ae k0 0;have c1:=Ae k1 0;have z0:=Ap k0 0;have z1:=Ap k1 0;clear hb;go_wp2_with fail;have h0:=(Below.heap_setCell (w4.setCell ⟨B,0,none⟩ (.string ⟨#[]⟩)) ⟨B+1,0,none⟩ (.int .i64 4) B (by simp)).trans (Bn k0 0 (.string ⟨#[]⟩));have h1:=Bn ((Below.heap_setCell w4 ⟨B,0,none⟩ (.string ⟨#[]⟩) (B+1) (by simp)).trans k1) 0 (.int .i64 4);have hF:=((hf.mono (L':=[B,B+1]) (fun _ h=>by cases h)).setCell (p:=⟨B,0,none⟩) (.inl (by simp)) (.string ⟨#[]⟩)).setCell (p:=⟨B+1,0,none⟩) (.inl (by simp)) (.int .i64 4);refine leaves_cons (f:=55) (args:=#[.pointer (some ⟨B,0,none⟩),.pointer (some ⟨B+1,0,none⟩)]) (by simp) (by simp[go_sem]) ?_;refine(Ia B (B+1) _).mono ?_;rintro e u' w'' ⟨rfl,rfl,rfl⟩;have c0:=Ae h0 0;have c1:=Ae h1 0;simp only[Array.setIfInBounds,Array.size,List.length] at c0 c1;simp[Leaves,settle,results,Tryz.results29,go_sem,c0,c1];exact⟨by rw[eR];exact⟨rfl,rfl⟩,f2.step hF (fun x hx => .inr (by simp at hx;omega))⟩
  ·have eR:E0 true t=(t,0):=by simp[E0];omega
   go_wp2_with fail;refine(hb.string (HT0.out (by simp))).mono ?_;rintro e w5 ⟨rfl,hf⟩;have k0:=hf.keep q0 nE;have k1:=hf.keep q1 nE;have c0:=Ae k0 0;have c1:=Ae k1 0;have z0:=Ap k0 0;have z1:=Ap k1 0;clear hb;go_wp2_with fail;have h0:=(Below.heap_setCell (w5.setCell ⟨B,0,none⟩ (.string ⟨t.toArray⟩)) ⟨B+1,0,none⟩ (.int .i64 0) B (by simp)).trans (Bn k0 0 (.string ⟨t.toArray⟩));have h1:=Bn ((Below.heap_setCell w5 ⟨B,0,none⟩ (.string ⟨t.toArray⟩) (B+1) (by simp)).trans k1) 0 (.int .i64 0);have hF:=((hf.mono (L':=[B,B+1]) (fun _ h=>by cases h)).setCell (p:=⟨B,0,none⟩) (.inl (by simp)) (.string ⟨t.toArray⟩)).setCell (p:=⟨B+1,0,none⟩) (.inl (by simp)) (.int .i64 0);refine leaves_cons (f:=55) (args:=#[.pointer (some ⟨B,0,none⟩),.pointer (some ⟨B+1,0,none⟩)]) (by simp) (by simp[go_sem]) ?_;refine(Ia B (B+1) _).mono ?_;rintro e u' w'' ⟨rfl,rfl,rfl⟩;have c0:=Ae h0 0;have c1:=Ae h1 0;simp only[Array.setIfInBounds,Array.size,List.length] at c0 c1;simp[Leaves,settle,results,Tryz.results29,go_sem,c0,c1];exact⟨by rw[eR];exact⟨rfl,rfl⟩,f2.step hF (fun x hx => .inr (by simp at hx;omega))⟩
 ·have eR:E0 false t=([],5):=rfl;have k0:=hf.keep q0 nE;have k1:=hf.keep q1 nE;have c0:=Ae k0 0;have c1:=Ae k1 0;have z0:=Ap k0 0;have z1:=Ap k1 0;go_wp2_with fail;refine leaves_cons (f:=55) (args:=#[.pointer (some ⟨B,0,none⟩),.pointer (some ⟨B+1,0,none⟩)]) (by simp) (by simp[go_sem]) ?_;refine(Nj B (B+1) _ k0 k1 (by omega)).mono ?_;rintro e u' w'' ⟨rfl,rfl,hF,h0,h1⟩;have c0:=Ae h0 0;have c1:=Ae h1 0;simp[Leaves,settle,results,fl,Tryz.results29,go_sem,c0,c1];exact⟨by rw[eR];exact⟨rfl,rfl⟩,f2.step (((hf.mono (L':=[B,B+1]) (fun _ h=>by cases h))).trans hF) (fun x hx => .inr (by simp at hx;omega))⟩
theorem toldP_any(T:Nat)(t:List UInt8)(O:Bool)(w:World)(ht0:O=true→t≠[])(hc:∀ w2,Fr [] w w2→∀ P wr,WB w2 P [] [] wr→Calls prog 30 #[.pointer (some ⟨P,0,none⟩),.pointer (some ⟨T,0,none⟩)] wr (Sd w2 P [] t O)):
  Calls prog 29 #[.func (.func 30) #[] #[.pointer (some ⟨T,0,none⟩)]] w fun e w'=>e = .returned (.tuple #[.string ⟨(E0 O t).1.toArray⟩,.int .i64 (E0 O t).2])∧Fr [] w w':=by
 have HC:=Lib.hid hc;have HT0:=Lib.hid ht0;clear hc ht0
 go_enter_defers func29,ntmps29
 go_wp2_with fail;have f2:Fr [] w ((w.alloc (.cells #[.string ⟨#[]⟩] 9)).alloc (.cells #[.int .i64 0] 28)):=((Fr.refl [] w).alloc _).alloc _;have q0:=Af (Ad w (.cells #[.string ⟨#[]⟩] 9)) (.cells #[.int .i64 0] 28);have q1:=Ad (w.alloc (.cells #[.string ⟨#[]⟩] 9)) (.cells #[.int .i64 0] 28);have hb:=WB.fresh ((w.alloc (.cells #[.string ⟨#[]⟩] 9)).alloc (.cells #[.int .i64 0] 28));rw[show(w.alloc (.cells #[.string ⟨#[]⟩] 9)).heap.size=w.heap.size+1 by simp] at q1;have hP:((w.alloc (.cells #[.string ⟨#[]⟩] 9)).alloc (.cells #[.int .i64 0] 28)).heap.size=w.heap.size+1+1:=by simp
 rw[hP] at hb
 generalize hw2:(w.alloc (.cells #[.string ⟨#[]⟩] 9)).alloc (.cells #[.int .i64 0] 28)=w2 at *
 have hT:=Aa q1
 generalize hB:w.heap.size=B at *
 refine(HC.out _ f2 _ _ hb).mono ?_;clear hb;rintro e w3 (⟨rfl,rfl,hb⟩| ⟨rfl,rfl,hf⟩)
 ·go_wp2_with fail;refine hb.len.mono ?_;rintro e w4 ⟨rfl,rfl⟩;have hf:=hb.frame
  by_cases hl:(4096:Int)<(t.length:Int)
  ·have eR:E0 true t=([],4):=by simp[E0];omega
   have k0:=hf.keep q0 nE;have k1:=hf.keep q1 nE;have c0:=Ae k0 0;have c1:=Ae k1 0;have z0:=Ap k0 0;have z1:=Ap k1 0;clear hb;go_wp2_with fail;have h0:=(Below.heap_setCell (w4.setCell ⟨B,0,none⟩ (.string ⟨#[]⟩)) ⟨B+1,0,none⟩ (.int .i64 4) B (by simp)).trans (Bn k0 0 (.string ⟨#[]⟩));have h1:=Bn ((Below.heap_setCell w4 ⟨B,0,none⟩ (.string ⟨#[]⟩) (B+1) (by simp)).trans k1) 0 (.int .i64 4);have hF:=((hf.mono (L':=[B,B+1]) (fun _ h=>by cases h)).setCell (p:=⟨B,0,none⟩) (.inl (by simp)) (.string ⟨#[]⟩)).setCell (p:=⟨B+1,0,none⟩) (.inl (by simp)) (.int .i64 4);refine leaves_cons (f:=55) (args:=#[.pointer (some ⟨B,0,none⟩),.pointer (some ⟨B+1,0,none⟩)]) (by simp) (by simp[go_sem]) ?_;refine(Ia B (B+1) _).mono ?_;rintro e u' w'' ⟨rfl,rfl,rfl⟩;have c0:=Ae h0 0;have c1:=Ae h1 0;simp only[Array.setIfInBounds,Array.size,List.length] at c0 c1;simp[Leaves,settle,results,Tryz.results29,go_sem,c0,c1];exact⟨by rw[eR];exact⟨rfl,rfl⟩,f2.step hF (fun x hx => .inr (by simp at hx;omega))⟩
  ·have eR:E0 true t=(t,0):=by simp[E0];omega
   go_wp2_with fail;refine(hb.string (HT0.out (by simp))).mono ?_;rintro e w5 ⟨rfl,hf⟩;have k0:=hf.keep q0 nE;have k1:=hf.keep q1 nE;have c0:=Ae k0 0;have c1:=Ae k1 0;have z0:=Ap k0 0;have z1:=Ap k1 0;clear hb;go_wp2_with fail;have h0:=(Below.heap_setCell (w5.setCell ⟨B,0,none⟩ (.string ⟨t.toArray⟩)) ⟨B+1,0,none⟩ (.int .i64 0) B (by simp)).trans (Bn k0 0 (.string ⟨t.toArray⟩));have h1:=Bn ((Below.heap_setCell w5 ⟨B,0,none⟩ (.string ⟨t.toArray⟩) (B+1) (by simp)).trans k1) 0 (.int .i64 0);have hF:=((hf.mono (L':=[B,B+1]) (fun _ h=>by cases h)).setCell (p:=⟨B,0,none⟩) (.inl (by simp)) (.string ⟨t.toArray⟩)).setCell (p:=⟨B+1,0,none⟩) (.inl (by simp)) (.int .i64 0);refine leaves_cons (f:=55) (args:=#[.pointer (some ⟨B,0,none⟩),.pointer (some ⟨B+1,0,none⟩)]) (by simp) (by simp[go_sem]) ?_;refine(Ia B (B+1) _).mono ?_;rintro e u' w'' ⟨rfl,rfl,rfl⟩;have c0:=Ae h0 0;have c1:=Ae h1 0;simp only[Array.setIfInBounds,Array.size,List.length] at c0 c1;simp[Leaves,settle,results,Tryz.results29,go_sem,c0,c1];exact⟨by rw[eR];exact⟨rfl,rfl⟩,f2.step hF (fun x hx => .inr (by simp at hx;omega))⟩
 ·have eR:E0 false t=([],5):=rfl;have k0:=hf.keep q0 nE;have k1:=hf.keep q1 nE;have c0:=Ae k0 0;have c1:=Ae k1 0;have z0:=Ap k0 0;have z1:=Ap k1 0;go_wp2_with fail;refine leaves_cons (f:=55) (args:=#[.pointer (some ⟨B,0,none⟩),.pointer (some ⟨B+1,0,none⟩)]) (by simp) (by simp[go_sem]) ?_;refine(Nj B (B+1) _ k0 k1 (by omega)).mono ?_;rintro e u' w'' ⟨rfl,rfl,hF,h0,h1⟩;have c0:=Ae h0 0;have c1:=Ae h1 0;simp[Leaves,settle,results,fl,Tryz.results29,go_sem,c0,c1];exact⟨by rw[eR];exact⟨rfl,rfl⟩,f2.step (((hf.mono (L':=[B,B+1]) (fun _ h=>by cases h))).trans hF) (fun x hx => .inr (by simp at hx;omega))⟩
theorem txE_ne{x:Ab}(h:Be x=true):txE x≠[]:=fun e=>by
 have h1:=Kk h;rw[e] at h1;obtain⟨⟨q,r,hq,_⟩,_⟩:=Pi _ x (Nat.lt_succ_self _) h;rw[hq] at h1;have h2:At []=some [(0,[],0)]:=rfl;rw[h2] at h1;have:=congrArg (fun o=>(o.getD []).length) h1;simp at this
theorem Ze(w2:World)(ok:Nat→Prop)(P T:Nat)(k a:Int)(nm:LB)(n:Int)(s:LB)(ls:List LB)(args:List Ab)(arms:List (Ak×Ab))(A5 A6 A7:Option Addr)(c5 c6 c7:Nat)(wr:World)(hV:Dx w2)(hsz:szE (.mk k a nm n s ls args arms)≤1048576)(hs:SwE (.mk k a nm n s ls args arms))(hx:Aj w2 ok (.mk k a nm n s ls args arms) [vI k,vI a,vS nm,vI n,vS s,.slice A5 ls.length c5,.slice A6 args.length c6,.slice A7 arms.length c7])(hb:WB w2 P [] [] wr)(hq:wr.heap[T]?=some (.cells #[vI k,vI a,vS nm,vI n,vS s,.slice A5 ls.length c5,.slice A6 args.length c6,.slice A7 arms.length c7] 35 (0,0))):
  Calls prog 37 #[.pointer (some ⟨P,0,none⟩),.pointer (some ⟨T,0,none⟩)] wr (Sd w2 P [] (txE (.mk k a nm n s ls args arms)) (Be (.mk k a nm n s ls args arms))):=by
 have cE:=Hz (Uk w2 ok P hV 1048577 (by omega) k a nm n s ls args arms A5 A6 A7 c5 c6 c7 [] [] wr (by omega) hs hx hb (by have:=X0 _ hs;simp;omega));rw[List.nil_append] at cE
 generalize txE (.mk k a nm n s ls args arms)=t at *
 generalize Be (.mk k a nm n s ls args arms)=O at *
 clear hsz hs hx hb hV;obtain⟨⟨l0,l1,l2,l3,l4,l5,l6,l7⟩,_⟩:=Ac hq;go_enter func37,ntmps37;go_wp2_with fail;refine cE.out.mono ?_;rintro e w3 (⟨hok,rfl,hb⟩| ⟨hok,rfl,hf⟩)
 ·go_wp2_with fail
  go_end0
  exact Sd.done (by simp[hok]) rfl hb
 ·go_wp2_with fail;exact⟨rfl,Sd.gave (by simp[hok]) hf⟩
theorem Hq(k a:Int)(nm:LB)(n:Int)(s:LB)(ls:List LB)(args:List Ab)(arms:List (Ak×Ab))(A5 A6 A7:Option Addr)(c5 c6 c7:Nat)(w:World)(hV:Dx w)(hx:Aj w (fun b=>b<w.heap.size) (.mk k a nm n s ls args arms) [vI k,vI a,vS nm,vI n,vS s,.slice A5 ls.length c5,.slice A6 args.length c6,.slice A7 arms.length c7])(hsz:szE (.mk k a nm n s ls args arms)≤1099511627775)(hs:SwE (.mk k a nm n s ls args arms)):
  Calls prog 17 #[.agg #[vI k,vI a,vS nm,vI n,vS s,.slice A5 ls.length c5,.slice A6 args.length c6,.slice A7 arms.length c7]] w fun e w'=>e = .returned (.tuple #[.string ⟨(Fl (.mk k a nm n s ls args arms)).1.toArray⟩,vI (Fl (.mk k a nm n s ls args arms)).2])∧Fr [] w w':=by
 have HV:=Hz hV;have HS:=Hz hs;have HX:=Hz hx;have HZ:=Hz hsz;have cC:=fun w hx=>Hz (Mg k a nm n s ls args arms A5 ls.length c5 A6 args.length c6 A7 arms.length c7 4096 (by omega) (by omega) w hx HZ.out)
 have cD:=fun w hx=>Hz (Oq k a nm n s ls args arms A5 ls.length c5 A6 args.length c6 A7 arms.length c7 200 w hx HZ.out)
 have HR:Hid (Fl (.mk k a nm n s ls args arms)=if 4096<szE (.mk k a nm n s ls args arms)then ([],3)else if (Dz 200 (.mk k a nm n s ls args arms)).isSome=true then ([],22)else E0 (Be (.mk k a nm n s ls args arms)) (txE (.mk k a nm n s ls args arms))):=Hz rfl;have q0:=Ad w (.cells #[vI k,vI a,vS nm,vI n,vS s,.slice A5 ls.length c5,.slice A6 args.length c6,.slice A7 arms.length c7] 35);have f0:=(Fr.refl [] w).alloc (.cells #[vI k,vI a,vS nm,vI n,vS s,.slice A5 ls.length c5,.slice A6 args.length c6,.slice A7 arms.length c7] 35);have kE:∀ {w'},Fr [] w w'→Aj w' (fun b=>b<w'.heap.size) (.mk k a nm n s ls args arms) [vI k,vI a,vS nm,vI n,vS s,.slice A5 ls.length c5,.slice A6 args.length c6,.slice A7 arms.length c7]:=fun hf=>HX.out.fr hf
 have cS:=fun w2 P T wr hV hz hx hb hq=>Hz (Ze w2 (fun b=>b<w2.heap.size) P T k a nm n s ls args arms A5 A6 A7 c5 c6 c7 wr hV hz HS.out hx hb hq)
 have HNE:Hid (Be (.mk k a nm n s ls args arms)=true→txE (.mk k a nm n s ls args arms)≠[]):=Hz (fun h=>txE_ne h)
 generalize Fl (.mk k a nm n s ls args arms)=R at *
 generalize szE (.mk k a nm n s ls args arms)=Z at *
 generalize txE (.mk k a nm n s ls args arms)=t at *
 generalize Be (.mk k a nm n s ls args arms)=O at *
 clear hV hs hx hsz;have hmf:∀ (fn:Fn) (first cap:Array Value) (w:World),(Instr.makeFunc fn first cap).run prog w = .ok (.func fn first cap) w:=fun _ _ _ _=>rfl
 go_enter func17,ntmps17;go_wp2_with fail
 generalize w.alloc (.cells #[vI k,vI a,vS nm,vI n,vS s,.slice A5 ls.length c5,.slice A6 args.length c6,.slice A7 arms.length c7] 35)=x at *
 generalize hT:w.heap.size=T at *
 refine(cC _ (kE f0)).out.mono ?_;rintro e w2 ⟨rfl,f2⟩;have F2:=f0.trans f2;replace q0:=f2.keep q0 nE;clear f0 f2;obtain⟨⟨l0,l1,l2,l3,l4,l5,l6,l7⟩,_⟩:=Ac q0;by_cases hz:4096<Z
 ·have hR:R=([],3):=by rw[HR.out,if_pos hz]
  have z:(4096:Int)<min (Z:Int) (4096+1):=by omega
  subst hR;clear HR;go_wp2_with fail;go_ret2;exact⟨rfl,F2⟩
 ·have z:¬ (4096:Int)<min (Z:Int) (4096+1):=by omega
  go_wp2_with fail;refine(cD _ (kE F2)).out.mono ?_;rintro e w3 ⟨he,f3⟩;have F3:=F2.trans f3;replace q0:=f3.keep q0 nE;clear F2 f3;clear l0 l1 l2 l3 l4 l5 l6 l7;obtain⟨⟨l0,l1,l2,l3,l4,l5,l6,l7⟩,_⟩:=Ac q0
  cases hd:Dz 200 (.mk k a nm n s ls args arms)with
  | some p =>
   have hR:R=([],22):=by rw[HR.out,if_neg hz,hd];rfl
   rw[hd] at he;subst he hR;clear HR hd;go_wp2_with fail;go_ret2
   exact⟨rfl,F3⟩
  | none =>
   have hR:R=E0 O t:=by rw[HR.out,if_neg hz,hd];rfl
   rw[hd] at he;subst he hR;clear HR hd;have cTo:=Hz (toldE_any T t O w3 HNE.out (fun w4 hf P wr hb=>(cS w4 P T wr (HV.out.fr (F3.trans hf)) (by omega) (kE (F3.trans hf)) hb ((hf.trans hb.frame).keep q0 nE)).out));go_wp2_with fail;refine cTo.out.mono ?_;rintro e w4 ⟨rfl,f4⟩;go_wp2_with fail;go_ret2;exact⟨rfl,F3.trans f4⟩
theorem txP_ne{x:Ak}(h:Ct x=true):txP x≠[]:=fun e=>by
 have h1:=Vf h [] Sep.nil_;rw[e] at h1;obtain⟨q,r,hq,_⟩:=M0 h;rw[hq] at h1;have h2:At []=some [(0,[],0)]:=rfl;simp[h2] at h1
theorem Bd.fr{w w':World}{x:Ak}{cs:List Value}(h:Bd w (fun b=>b<w.heap.size) x cs)(hf:Fr [] w w'):Bd w' (fun b=>b<w'.heap.size) x cs:=h.keep (Sh.of_fr hf (fun b hb _=>⟨Nl' hb hf.size,fun x=>by cases x⟩))
theorem zero_at(w:World)(ok:Nat→Prop):Aj w ok (.mk 0 0 [] 0 [] [] [] []) [vI 0,vI 0,vE,vI 0,vE,vZ,vZ,vZ] :=
 .mk (fun _=>[]) (fun _=>[]) (fun _=>[]) (fun _=>[]) (Dy.nil_ _ _ _ _) (fun _ _ h=>by simp at h) (Dy.nil_ _ _ _ _) (fun _ _ h=>by simp at h) (Dy.nil_ _ _ _ _) (fun _ _ _ h=>by simp at h) (fun _ _ _ h=>by simp at h)
theorem wrap_at{w:World}{ok:Nat→Prop}{x:Ak}{v0 v1 v2 v3 v4 v5 v6:Value}{U:Nat}(hx:Bd w ok x [v0,v1,v2,v3,v4,v5,v6])(hU:ok U)(hq:w.heap[U]?=some (.cells #[v0,v1,v2,v3,v4,v5,v6,vI 0,vI 0,vE,vI 0,vE,vZ,vZ,vZ] 46 (0,0))):
  Aj w ok (Kw x) [vI 0,vI 0,vE,vI 0,vE,vZ,vZ,.slice (some ⟨U,0,none⟩) 1 1]:=by
 refine .mk (fun _=>[]) (fun _=>[]) (fun _=>[v0,v1,v2,v3,v4,v5,v6]) (fun _=>[vI 0,vI 0,vE,vI 0,vE,vZ,vZ,vZ]) (Dy.nil_ _ _ _ _) (fun _ _ h=>by simp at h) (Dy.nil_ _ _ _ _) (fun _ _ h=>by simp at h) (.inr ⟨U,0,1,rfl,hU,Aa hq,Nr' _,fun i hi=>⟨rfl,fun j v hv=>?_⟩⟩) (fun i p y h=>?_) (fun i p y h=>?_)
 ·have:i=0:=by simpa using hi
  subst this;rw[Ae hq];simpa using hv
 ·cases i with
  | zero=>cases h;exact hx
  | succ i=>simp at h
 ·cases i with
  | zero=>cases h;exact zero_at w ok
  | succ i=>simp at h
theorem PatF_any(w2:World)(ok:Nat→Prop)(P T:Nat)(k a:Int)(nm:LB)(n:Int)(s:LB)(ls:List LB)(args:List Ak)(A5 A6:Option Addr)(c5 c6:Nat)(wr:World)(hV:Dx w2)(hsz:szP (.mk k a nm n s ls args)≤1048576)(hs:SwP (.mk k a nm n s ls args))(hx:Bd w2 ok (.mk k a nm n s ls args) [vI k,vI a,vS nm,vI n,vS s,.slice A5 ls.length c5,.slice A6 args.length c6])(hb:WB w2 P [] [] wr)(hq:wr.heap[T]?=some (.cells #[vI k,vI a,vS nm,vI n,vS s,.slice A5 ls.length c5,.slice A6 args.length c6] 25 (0,0))):
  Calls prog 30 #[.pointer (some ⟨P,0,none⟩),.pointer (some ⟨T,0,none⟩)] wr (Sd w2 P [] (txP (.mk k a nm n s ls args)) (Ct (.mk k a nm n s ls args))):=by
 have cE:=Hz (S4 w2 ok P hV 1048577 (by omega) k a nm n s ls args A5 A6 c5 c6 [] [] wr (by omega) hs hx hb (by have:=X1 _ hs;simp;omega));rw[List.nil_append] at cE
 generalize txP (.mk k a nm n s ls args)=t at *
 generalize Ct (.mk k a nm n s ls args)=O at *
 clear hsz hs hx hb hV;obtain⟨⟨l0,l1,l2,l3,l4,l5,l6⟩,_⟩:=Aq hq;go_enter func30,ntmps30;go_wp2_with fail;refine cE.out.mono ?_;rintro e w3 (⟨hok,rfl,hb⟩| ⟨hok,rfl,hf⟩)
 ·go_wp2_with fail
  go_end0
  exact Sd.done (by simp[hok]) rfl hb
 ·go_wp2_with fail;exact⟨rfl,Sd.gave (by simp[hok]) hf⟩
theorem Nf(k a:Int)(nm:LB)(n:Int)(s:LB)(ls:List LB)(args:List Ak)(A5 A6:Option Addr)(c5 c6:Nat)(w:World)(hV:Dx w)(hx:Bd w (fun b=>b<w.heap.size) (.mk k a nm n s ls args) [vI k,vI a,vS nm,vI n,vS s,.slice A5 ls.length c5,.slice A6 args.length c6])(hsz:szP (.mk k a nm n s ls args)≤549755813888)(hs:SwP (.mk k a nm n s ls args)):
  Calls prog 14 #[.agg #[vI k,vI a,vS nm,vI n,vS s,.slice A5 ls.length c5,.slice A6 args.length c6]] w fun e w'=>e = .returned (.tuple #[.string ⟨(Ij (.mk k a nm n s ls args)).1.toArray⟩,vI (Ij (.mk k a nm n s ls args)).2])∧Fr [] w w':=by
 have HV:=Hz hV;have HS:=Hz hs;have HX:=Hz hx;have hzw:szE (Kw (.mk k a nm n s ls args))=szP (.mk k a nm n s ls args)+2:=by simp[Kw,szE,B1,Cd,szA];omega
 have HZ:Hid (szE (Kw (.mk k a nm n s ls args))≤1099511627775):=Hz (by omega);have cC:=fun U w hx=>Hz (Mg 0 0 [] 0 [] [] [] [((.mk k a nm n s ls args),.mk 0 0 [] 0 [] [] [] [])] none 0 0 none 0 0 (some ⟨U,0,none⟩) 1 1 4098 (by omega) (by omega) w hx HZ.out)
 have cD:=fun U w hx=>Hz (Oq 0 0 [] 0 [] [] [] [((.mk k a nm n s ls args),.mk 0 0 [] 0 [] [] [] [])] none 0 0 none 0 0 (some ⟨U,0,none⟩) 1 1 201 w hx HZ.out)
 have HR:Hid (Ij (.mk k a nm n s ls args)=if 4098<szE (Kw (.mk k a nm n s ls args))then ([],3)else if (Dz 201 (Kw (.mk k a nm n s ls args))).isSome=true then ([],22)else E0 (Ct (.mk k a nm n s ls args)) (txP (.mk k a nm n s ls args))):=Hz rfl;have kP:∀ {w'},Fr [] w w'→Bd w' (fun b=>b<w'.heap.size) (.mk k a nm n s ls args) [vI k,vI a,vS nm,vI n,vS s,.slice A5 ls.length c5,.slice A6 args.length c6]:=fun hf=>HX.out.fr hf
 have cS:=fun w2 P T wr hV hz hx hb hq=>Hz (PatF_any w2 (fun b=>b<w2.heap.size) P T k a nm n s ls args A5 A6 c5 c6 wr hV hz HS.out hx hb hq)
 have HNE:Hid (Ct (.mk k a nm n s ls args)=true→txP (.mk k a nm n s ls args)≠[]):=Hz (fun h=>txP_ne h);change ∀ U w,_→Hid (Calls _ _ _ _ fun e w'=>e = .returned (vI (min (szE (Kw (.mk k a nm n s ls args)):Int) (4098+1)))∧_)at cC
 have HZW:=Hz hzw
 generalize hpw:Kw (.mk k a nm n s ls args)=pw at *
 generalize Ij (.mk k a nm n s ls args)=R at *
 generalize szE pw=Z at *
 generalize txP (.mk k a nm n s ls args)=t at *
 generalize Ct (.mk k a nm n s ls args)=O at *
 clear hV hs hx hsz hzw;have hmf:∀ (fn:Fn) (first cap:Array Value) (w:World),(Instr.makeFunc fn first cap).run prog w = .ok (.func fn first cap) w:=fun _ _ _ _=>rfl
 go_enter func14,ntmps14;go_wp2_with fail;have f1:=(Fr.refl [] w).alloc (.cells #[vI k,vI a,vS nm,vI n,vS s,.slice A5 ls.length c5,.slice A6 args.length c6] 25);have f2:=f1.alloc (.cells #[vI k,vI a,vS nm,vI n,vS s,.slice A5 ls.length c5,.slice A6 args.length c6,vI 0,vI 0,vE,vI 0,vE,vZ,vZ,vZ] 46);have f3:=f2.alloc (.cells #[vI 0,vI 0,vE,vI 0,vE,vZ,vZ,.slice (some ⟨w.heap.size+1,0,none⟩) 1 1] 35);have qT:=Af (Af (Ad w (.cells #[vI k,vI a,vS nm,vI n,vS s,.slice A5 ls.length c5,.slice A6 args.length c6] 25)) (.cells #[vI k,vI a,vS nm,vI n,vS s,.slice A5 ls.length c5,.slice A6 args.length c6,vI 0,vI 0,vE,vI 0,vE,vZ,vZ,vZ] 46)) (.cells #[vI 0,vI 0,vE,vI 0,vE,vZ,vZ,.slice (some ⟨w.heap.size+1,0,none⟩) 1 1] 35);have qU:=Af (Ad (w.alloc (.cells #[vI k,vI a,vS nm,vI n,vS s,.slice A5 ls.length c5,.slice A6 args.length c6] 25)) (.cells #[vI k,vI a,vS nm,vI n,vS s,.slice A5 ls.length c5,.slice A6 args.length c6,vI 0,vI 0,vE,vI 0,vE,vZ,vZ,vZ] 46)) (.cells #[vI 0,vI 0,vE,vI 0,vE,vZ,vZ,.slice (some ⟨w.heap.size+1,0,none⟩) 1 1] 35);have qE:=Ad ((w.alloc (.cells #[vI k,vI a,vS nm,vI n,vS s,.slice A5 ls.length c5,.slice A6 args.length c6] 25)).alloc (.cells #[vI k,vI a,vS nm,vI n,vS s,.slice A5 ls.length c5,.slice A6 args.length c6,vI 0,vI 0,vE,vI 0,vE,vZ,vZ,vZ] 46)) (.cells #[vI 0,vI 0,vE,vI 0,vE,vZ,vZ,.slice (some ⟨w.heap.size+1,0,none⟩) 1 1] 35);rw[Nr] at qU;rw[Nr,Nr] at qE
 generalize ((w.alloc (.cells #[vI k,vI a,vS nm,vI n,vS s,.slice A5 ls.length c5,.slice A6 args.length c6] 25)).alloc (.cells #[vI k,vI a,vS nm,vI n,vS s,.slice A5 ls.length c5,.slice A6 args.length c6,vI 0,vI 0,vE,vI 0,vE,vZ,vZ,vZ] 46)).alloc (.cells #[vI 0,vI 0,vE,vI 0,vE,vZ,vZ,.slice (some ⟨w.heap.size+1,0,none⟩) 1 1] 35)=x at *
 clear f1 f2
 generalize hT:w.heap.size=T at *
 have kW:∀ {w'},Fr [] x w'→Aj w' (fun b=>b<w'.heap.size) pw [vI 0,vI 0,vE,vI 0,vE,vZ,vZ,.slice (some ⟨T+1,0,none⟩) 1 1]:=fun hf=>by
  have q:=hf.keep qU nE;rw[← hpw];exact wrap_at (kP (f3.trans hf)) (Aa q) q
 refine(cC _ _ (by rw[show(.mk 0 0 [] 0 [] [] [] [((.mk k a nm n s ls args),.mk 0 0 [] 0 [] [] [] [])]:Ab)=pw from hpw];exact kW (Fr.refl [] x))).out.mono ?_;rintro e w2 ⟨rfl,g2⟩;have F2:=f3.trans g2;have G2:=g2;clear g2;have qE2:=G2.keep qE nE;obtain⟨⟨l0,l1,l2,l3,l4,l5,l6,l7⟩,_⟩:=Ac qE2;by_cases hz:4098<Z
 ·have hR:R=([],3):=by rw[HR.out,if_pos hz]
  have z:(4098:Int)<min (Z:Int) (4098+1):=by omega
  subst hR;clear HR;go_wp2_with fail;go_ret2;exact⟨rfl,F2⟩
 ·have z:¬ (4098:Int)<min (Z:Int) (4098+1):=by omega
  go_wp2_with fail;refine(cD _ _ (by rw[show(.mk 0 0 [] 0 [] [] [] [((.mk k a nm n s ls args),.mk 0 0 [] 0 [] [] [] [])]:Ab)=pw from hpw];exact kW G2)).out.mono ?_;rintro e w3 ⟨he,g3⟩;have F3:=F2.trans g3;have G3:=G2.trans g3;clear F2 G2 g3 l0 l1 l2 l3 l4 l5 l6 l7;replace he:e=match Dz 201 pw with|some p => .returned (.tuple #[vI p.1,.bool true])| none => .returned (.tuple #[vI 0,.bool false]):=by rw[← hpw];exact he
  have qE3:=G3.keep qE nE;have qT3:=G3.keep qT nE;obtain⟨⟨l0,l1,l2,l3,l4,l5,l6,l7⟩,_⟩:=Ac qE3
  cases hd:Dz 201 pw with
  | some p =>
   have hR:R=([],22):=by rw[HR.out,if_neg hz,hd];rfl
   rw[hd] at he;subst he hR;clear HR hd;go_wp2_with fail;go_ret2
   exact⟨rfl,F3⟩
  | none =>
   have hR:R=E0 O t:=by rw[HR.out,if_neg hz,hd];rfl
   rw[hd] at he;subst he hR;clear HR hd;have cTo:=Hz (toldP_any T t O w3 HNE.out (fun w4 hf P wr hb=>(cS w4 P T wr (HV.out.fr (F3.trans hf)) (by have:=HZW.out;omega) (kP (F3.trans hf)) hb ((hf.trans hb.frame).keep qT3 nE)).out));go_wp2_with fail;refine cTo.out.mono ?_;rintro e w4 ⟨rfl,f4⟩;go_wp2_with fail;go_ret2;exact⟨rfl,F3.trans f4⟩
def a7S:LB:=[102,32,120,32,43,32,49]
def a7L:List Tok:=[⟨1,0,[102],0⟩,⟨1,2,[120],0⟩,⟨7,4,[43],0⟩,⟨4,6,[],1⟩,⟨0,7,[],0⟩]
theorem a7L_eq:Da a7S = .ok a7L:=by rfl
def a7X:Ab:=opE 1 4 [D4 8 0 [varE 0 [102],varE 2 [120]],.mk 2 6 [] 1 [] [] [] []]
theorem a7Run:Run a7L (body .seq) ⟨0,true⟩ (.e a7X) ⟨4,true⟩:=Gf 200 _ _ _ _ (by rfl)
theorem a7PR:PR a7S a7X 0 0:=.ok a7L_eq a7Run rfl rfl rfl (by decide) (by rfl)
theorem a7Show:Fl a7X=([40,40,102,32,120,41,32,43,32,49,41],0):=by decide +kernel
theorem a7Let:Fl (varE 0 [108,101,116])=([],5):=by decide +kernel
def a7P:Ak:=.mk 8 0 [65] 0 [] [] [.mk 3 0 [] (-1) [] [] []]
theorem a7Pat:Ij a7P=([40,35,65,32,45,49,41],0):=by decide +kernel
theorem a7Sw:SwE a7X:=pr_sw a7PR
theorem a7Sv:SwE (varE 0 [108,101,116]):=⟨⟨by decide,by constructor <;> decide,by decide,by simp⟩,trivial,trivial⟩
theorem a7Sp:SwP a7P:=⟨⟨by decide,by constructor <;> decide,by decide,by simp⟩,⟨⟨by decide,by constructor <;> decide,by decide,by simp⟩,trivial⟩,trivial⟩
def Rx(r:LB×Int):Ending:=.returned (.tuple #[.string ⟨r.1.toArray⟩,vI r.2])
theorem a7At(w:World)(U:Nat)(hq:w.heap[U]?=some (.cells #[vI 3,vI 0,vE,vI (-1),vE,vZ,vZ] 25 (0,0))):
  Bd w (fun b=>b<w.heap.size) a7P [vI 8,vI 0,.string ⟨#[65]⟩,vI 0,vE,vZ,.slice (some ⟨U,0,none⟩) 1 1]:=by
 refine .mk (fun _=>[]) (fun _=>[vI 3,vI 0,vE,vI (-1),vE,vZ,vZ]) (Dy.nil_ _ _ _ _) (fun _ _ h=>by simp at h) (.inr ⟨U,0,1,rfl,Aa hq,Aa hq,Nr' _,fun i hi=>⟨rfl,fun j v hv=>?_⟩⟩) (fun i y h=>?_)
 ·have:i=0:=by simpa using hi
  subst this;rw[Ae hq];simpa using hv
 ·cases i with
  | zero=>cases h;exact .mk (fun _=>[]) (fun _=>[]) (Dy.nil_ _ _ _ _) (fun _ _ h=>by simp at h) (Dy.nil_ _ _ _ _) (fun _ _ h=>by simp at h)
  | succ i=>simp at h
theorem I3(w:World)(hE:Dx w):
  Calls prog 12 #[] w fun e w'=>e = .returned (.bool true)∧Fr [] w w':=by
 have p1:=fun w hE=>Hz (Q3 ⟨#[102,32,120,32,43,32,49]⟩ (by decide) w hE)
 have HE:=Hz hE;clear hE;go_enter func12,ntmps12;go_wp2_with fail;refine(p1 _ HE.out).out.mono ?_;rintro e w1 ⟨k,a,nm,n,s',ls,args,arms,A5,n5,c5,A6,n6,c6,A7,n7,c7,er,at_,rfl,hx,hpr,f1⟩;obtain⟨hX,rfl,rfl⟩:=PR.det a7PR hpr;unfold a7X opE at hX;cases hX;clear hpr p1
 have hl:n5=0∧n6=2∧n7=0:=by
  cases hx with
  | mk c5' c6' cp ce h5 e5 h6 e6 h7 e7 e8=>exact⟨h5.len,h6.len,h7.len⟩
 obtain⟨rfl,rfl,rfl⟩:=hl;have HX:=Hz hx;have fb:=(Fr.refl [] w1).alloc (.cells #[vI 19,vI 4,vE,vI 1,vE,.slice A5 0 c5,.slice A6 2 c6,.slice A7 0 c7] 35);have c1:=fun w hV hx=>Hz (Hq 19 4 [] 1 [] [] _ [] A5 A6 A7 c5 c6 c7 w hV hx (by decide +kernel) a7Sw)
 have c2:=fun w hV=>Hz (Hq 1 0 [108,101,116] 0 [] [] [] [] none none none 0 0 0 w hV (.mk (fun _=>[]) (fun _=>[]) (fun _=>[]) (fun _=>[]) (Dy.nil_ _ _ _ _) (fun _ _ h=>by simp at h) (Dy.nil_ _ _ _ _) (fun _ _ h=>by simp at h) (Dy.nil_ _ _ _ _) (fun _ _ _ h=>by simp at h) (fun _ _ _ h=>by simp at h)) (by decide +kernel) a7Sv)
 have c3:=fun U w hV hq=>Hz (Nf 8 0 [65] 0 [] [] [.mk 3 0 [] (-1) [] [] []] none (some ⟨U,0,none⟩) 0 1 w hV (a7At w U hq) (by decide +kernel) a7Sp)
 clear hx;go_wp2_with fail
 generalize w1.alloc (.cells #[vI 19,vI 4,vE,vI 1,vE,.slice A5 0 c5,.slice A6 2 c6,.slice A7 0 c7] 35)=w2 at *
 have f2:=f1.trans fb;refine(c1 _ (HE.out.fr f2) (HX.out.keep (Sh.of_fr fb (fun b hb hlt=>⟨Nl' hlt fb.size,fun x=>by cases x⟩)))).out.mono ?_;rintro e w3 ⟨he,f3⟩;replace he:=he.trans (congrArg Rx a7Show);unfold Rx at he;subst he;replace f2:=f2.trans f3;clear f1 fb f3 c1;go_wp2_with fail;refine(c2 _ (HE.out.fr f2)).out.mono ?_;rintro e w4 ⟨he,f3⟩;replace he:=he.trans (congrArg Rx a7Let);unfold Rx at he;subst he;replace f2:=f2.trans f3;clear f3 c2;have fb:=(Fr.refl [] w4).alloc (.cells #[vI 3,vI 0,vE,vI (-1),vE,vZ,vZ] 25);go_wp2_with fail;refine(c3 _ _ (HE.out.fr (f2.trans fb)) (Ad w4 _)).out.mono ?_;rintro e w5 ⟨he,f5⟩;replace he:=he.trans (congrArg Rx a7Pat);unfold Rx at he;subst he;go_wp2_with fail;go_ret;exact⟨rfl,(f2.trans fb).trans f5⟩
end
end Go.Proofs.YtabhpdhajajoiaaGreatDoor
