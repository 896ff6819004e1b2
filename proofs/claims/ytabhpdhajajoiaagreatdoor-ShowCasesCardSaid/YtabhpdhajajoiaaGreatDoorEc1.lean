/- A part of the proof: Pw, Fs, Ft, Op, Hl, Fu, Hc, Hi, Hm, Yd, Xa, Xl, Hp, Xd. -/
import Derived.SizedLaws
import Derived.Carry
import Derived.Deep.Slices
import Derived.ChangeArms
import Derived.KernelRfl
import Derived.BigQuiet
import Derived.Deep.DrawnRows
import Derived.Deep.RegionHeld3
import Derived.Test.YtabhpdhajajoiaaGreatDoorEb25
namespace Go.Proofs.YtabhpdhajajoiaaGreatDoor
open Go.RowKit
open _root_.Go.Proofs.Tryz
set_option linter.all false
set_option maxHeartbeats 16000000
set_option maxRecDepth 100000
open List renaming length_cons→Lc',length_append→La',getElem?_eq_getElem→Lg',cons_append→Lp',length_nil→Ln',append_assoc→Ls'
open Bool renaming and_eq_true→Ba'
theorem U0(l m:List Ak):Hd (l++m)=Hd l+Hd m:=by
 induction l with
 | nil=>simp[Hd]
 | cons x l ih=>simp[Hd,ih];omega
theorem Pk(l m:List Ab):D7 (l++m)=D7 l+D7 m:=by
 induction l with
 | nil=>simp[D7]
 | cons x l ih=>simp[D7,ih];omega
theorem Ux(l m:List (Ak×Ab)):D6 (l++m)=D6 l+D6 m:=by
 induction l with
 | nil=>simp[D6]
 | cons x l ih=>simp[D6,ih];omega
def Bk:NT→Nat
 | .armsL _ _ x acc=>laE x+D6 acc+2
 | .sumL a=>laE a+1
 | .prodL a=>laE a+1
 | .opL _ _ _ acc=>D7 acc+2
 | .appL a=>laE a+1
 | .postL a=>laE a+1
 | .braces _=>2
 | .recL _ ls args=>D7 args+ls.length+2
 | _=>0
def Fc:PNT→Nat
 | .marked (.mk _ _ _ _ _ ls args)=>Hd args+ls.length
 | .recL _ ls args=>Hd args+ls.length+2
 | _=>0
def lWt:Nat→Cmd→Prop
 | b,.retE x=>laE x+1≤b
 | b,.retP x=>laP x+1≤b
 | b,.look k=>∀ t,lWt b (k t true)
 | b,.ahead k=>∀ n,lWt b (k n)
 | b,.adv k=>lWt (b+2) k
 | _,.fail _=>True
 | b,.callE nt k=>∀ x m,laE x+1≤Bk nt+2 * m→lWt (b+2 * m) (k x)
 | b,.callP nt k=>∀ x m,laP x+1≤Fc nt+2 * m→lWt (b+2 * m) (k x)
theorem Cs{p:Prop} [Decidable p] {b:Nat}{c d:Cmd}(h1:p→lWt b c)(h2:¬ p→lWt b d):lWt b (if p then c else d):=by
 split
 ·exact h1 (by assumption)
 ·exact h2 (by assumption)
theorem U8{s:LB}{b:Nat}{k:Bool→Cmd}(h1:lWt (b+2) (k true))(h2:lWt b (k false)):lWt b (Cl s k):=fun _=>Cs (fun _=>h1) (fun _=>h2)
theorem Cz{s:LB}{b:Nat}{c d:Cmd}(h1:lWt (b+2) c)(h2:lWt b d):lWt b (Cl s fun b=>if b=true then c else d):=U8 h1 h2
theorem lwt_adv{b:Nat}{c:Cmd}(h:lWt (b+2) c):lWt b (.adv c):=h
theorem lwt_fail{b:Nat}{c:Cmd}:lWt b (.fail c):=trivial
theorem lwt_isI{l:List LB}{b:Nat}{c d:Cmd}(h1:lWt b c)(h2:lWt b d):lWt b (isC l fun b=>if b=true then c else d):=fun t=>by
 show lWt b (if _ then _ else _);exact Cs (fun _=>h1) (fun _=>h2)
theorem Cv{s:LB}{b:Nat}{c:Cmd}(h:lWt (b+2) c):lWt b (Bv s c):=fun _=>Cs (fun _=>h) (fun _=>trivial)
theorem Hv{b:Nat}{k:LB→Cmd}(h:∀ s,lWt (b+2) (k s)):lWt b (Fv k):=fun _=>Cs (fun _=>h _) (fun _=>trivial)
theorem A8{x:Ab}{b:Nat}(h:laE x+1≤b):lWt b (.retE x):=h
theorem Di{x:Ak}{b:Nat}(h:laP x+1≤b):lWt b (.retP x):=h
theorem lwtP(nt:PNT):lWt (Fc nt) (Cn nt):=by
 cases nt with
 | pat =>
  refine fun t=>Cs (fun _=>fun x m h=>Di ?_) (fun _=>fun x m h=>Di ?_)<;> simp only[Ln',Fc,laP,Hd] at * <;> omega
 | patom =>
  refine fun t=>Cs (fun h=>by cases h) (fun _=>Cs (fun _=>Di ?_) (fun _=>Cs (fun _=>Di ?_) (fun _=>Cs (fun _=>Di ?_) (fun _=>Cs (fun _=>Di ?_) (fun _=>fun x m h=>Di ?_)))))
  ·split <;> simp[laP,Hd,Fc]
  all_goals simp only[Ln',Fc,laP,Hd] at * <;> omega
 | marked x =>
  obtain⟨k,a,nm,n,s,ls,args⟩:=x;unfold Cn;refine Cz ?_ (Cz ?_ (Cz ?_ (Cz ?_ (Cz ?_ lwt_fail))))
  ·exact fun t=>Cs (fun _=>Cs (fun _=>Di (by simp only[Fc,laP];omega)) (fun _=>Di (by simp only[Fc,laP];omega))) (fun _=>trivial)
  ·exact Di (by simp only[Fc,laP];omega)
  ·exact Di (by simp only[Fc,laP];omega)
  ·exact Cz (Di (by simp only[Fc,laP];omega)) (fun x m h=>Cv (Di (by simp only[Fc] at *;omega)))
  ·refine Cz (Di (by simp only[Fc,laP];omega)) (fun t=>Cs (fun _=>fun x m h=>Di (by simp only[Fc] at *;omega)) (fun h=>absurd rfl h))
 | recL a ls args =>
  unfold Cn;refine Hv fun s=>Cv fun x m h=>Cz ?_ ?_
  ·exact fun y m2 h2=>Di (by simp only[Ln',La',Lc',Fc,U0,Hd] at *;omega)
  ·exact Cv (Di (by simp only[Ln',La',Lc',Fc,U0,Hd,laP] at *;omega))
theorem lwtE(nt:NT):lWt (Bk nt) (body nt):=by
 cases nt with
 | seq=>exact fun x m h t=>Cz (fun y m2 h2=>A8 (by simp only[Ln',Bk,D4,laE,D7,D6] at *;omega)) (A8 (by simp only[Bk] at *;omega))
 | item =>
  refine fun t=>Cz ?_ (lwt_isI (fun x m h=>A8 (by simp only[Bk] at *;omega)) (Cz (fun x m h=>A8 (by simp only[Bk] at *;omega)) (Cz (fun x m h=>A8 (by simp only[Bk] at *;omega)) (Cz ?_ (Cz ?_ ?_)))))
  ·refine U8 ?_ ?_
   ·exact Hv fun s=>Cv fun x m h=>Cv fun y m2 h2=>A8 (by simp only[Ln',if_true,Bk,laE,D7,D6] at *;omega)
   ·exact Hv fun s=>Cv fun x m h=>Cv fun y m2 h2=>A8 (by
     have h:laE x+1≤Bk .seq+2 * m:=h
     simp only[Ln',Bk,laE,D7,D6] at *;omega)
  ·exact fun x m h=>Cv fun y m2 h2=>Cv fun z m3 h3=>A8 (by simp only[Ln',Bk,D4,laE,D7,D6] at *;omega)
  ·exact fun x m h=>A8 (by simp only[Ln',Bk,D4,laE,D7,D6] at *;omega)
  ·exact fun x m h t=>Cz (fun y m2 h2=>A8 (by simp only[Ln',Bk,opE,laE,D7,D6] at *;omega)) (A8 (by simp only[Bk] at *;omega))
 | fn=>exact fun t=>Cv (Hv fun s=>Cv fun x m h=>A8 (by simp only[Ln',Bk,laE,D7,D6] at *;omega))
 | arms k a=>exact fun x m h=>Cv fun t=>Cs (fun _=>fun y m2 h2=>A8 (by simp only[Bk,D6] at *;omega)) (fun h=>absurd rfl h)
 | armsL k a x acc=>exact fun p m h=>Cv fun y m2 h2=>Cz (fun z m3 h3=>A8 (by simp only[Bk,Fc,Ux,D6,laA] at *;omega)) (Cv (A8 (by simp only[Ln',Bk,Fc,Ux,D6,laA,laE,D7] at *;omega)))
 | or=>exact fun x m h t=>Cz (fun y m2 h2=>A8 (by simp only[Ln',Bk,D4,laE,D7,D6] at *;omega)) (A8 (by simp only[Bk] at *;omega))
 | and=>exact fun x m h t=>Cz (fun y m2 h2=>A8 (by simp only[Ln',Bk,D4,laE,D7,D6] at *;omega)) (A8 (by simp only[Bk] at *;omega))
 | cmp=>exact fun x m h t=>Cs (fun _=>fun y m2 h2=>A8 (by simp only[Ln',Bk,opE,laE,D7,D6] at *;omega)) (fun _=>A8 (by simp only[Bk] at *;omega))
 | sum=>exact fun x m h y m2 h2=>A8 (by simp only[Bk] at *;omega)
 | sumL a=>exact fun t=>Cs (fun _=>fun x m h y m2 h2=>A8 (by simp only[Ln',Bk,opE,laE,D7,D6] at *;omega)) (fun _=>A8 (by simp only[Bk] at *;omega))
 | prod=>exact fun x m h y m2 h2=>A8 (by simp only[Bk] at *;omega)
 | prodL a=>exact fun t=>Cs (fun _=>fun x m h y m2 h2=>A8 (by simp only[Ln',Bk,opE,laE,D7,D6] at *;omega)) (fun _=>A8 (by simp only[Bk] at *;omega))
 | unary=>exact fun t=>Cz (fun x m h=>A8 (by simp only[Ln',Bk,opE,laE,D7,D6] at *;omega)) (Cz (fun x m h=>A8 (by simp only[Ln',Bk,opE,laE,D7,D6] at *;omega)) (fun x m h=>A8 (by simp only[Bk] at *;omega)))
 | app =>
  refine fun t=>Cs (fun _=>fun x m h=>A8 ?_) (fun _=>Cs (fun _=>fun x m h=>A8 ?_) (fun _=>fun x m h y m2 h2=>A8 ?_))<;> simp only[Ln',Bk,laE,D7,D6] at * <;> omega
 | opL n a m acc =>
  cases m with
  | zero=>exact A8 (by simp only[Ln',Bk,opE,laE,D6];omega)
  | succ m=>exact fun x m1 h y m2 h2=>A8 (by simp only[Bk,Pk,D7] at *;omega)
 | appL a=>exact fun t=>Cs (fun _=>fun x m h y m2 h2=>A8 (by simp only[Ln',Bk,D4,laE,D7,D6] at *;omega)) (fun _=>A8 (by simp only[Bk] at *;omega))
 | post=>exact fun t=>Cz (fun x m h=>A8 (by simp only[Ln',Bk,opE,laE,D7,D6] at *;omega)) (fun x m h y m2 h2=>A8 (by simp only[Bk] at *;omega))
 | postL a=>exact fun t=>Cs (fun _=>lwt_adv (Hv fun s=>fun y m2 h2=>A8 (by simp only[Ln',Bk,laE,D7,D6] at *;omega))) (fun _=>A8 (by simp only[Bk] at *;omega))
 | atom =>
  intro t;refine Cs (fun _=>?_) (fun _=>trivial);show lWt (0+2) _
  repeat refine Cs (fun _=>(by first|exact A8 (by simp only[Ln',laE,D7,D6];omega)| exact fun x m h=>A8 (by simp only[Bk] at *;omega))) (fun _=>?_)
  exact Cz (A8 (by simp only[Ln',laE,D7,D6];omega)) (fun x m h=>Cv (A8 (by simp only[Bk] at *;omega)))
 | braces a =>
  unfold body
  refine Cz (A8 (by simp only[Ln',Bk,laE,D7,D6];omega)) (fun n t=>Cs (fun _=>Cs (fun _=>fun x m h=>A8 (by simp only[Ln',Bk,D7] at *;omega)) (fun h=>absurd rfl h)) (fun _=>fun x m h=>Cv (Hv fun s=>Cv fun y m2 h2=>Cv (A8 (by simp only[Ln',Bk,laE,D7,D6] at *;omega)))))
 | recL a ls args =>
  unfold body;refine Hv fun s=>Cv fun x m h=>Cz ?_ ?_
  ·exact fun y m2 h2=>A8 (by simp only[Ln',La',Lc',Bk,Pk,D7] at *;omega)
  ·exact Cv (A8 (by simp only[Ln',La',Lc',Bk,Pk,D7,laE,D6] at *;omega))
def laR:Rs→Nat
 | .e x=>laE x
 | .p x=>laP x
theorem Run.laCost{ts:List Tok}{c:Cmd}{st:St}{r:Rs}{st':St}(h:Run ts c st r st'):∀ {b:Nat},lWt b c→st'.ok=true→laR r+1≤b+2 *(st'.i-st.i):=by
 induction h with
 | retE=>intro b hw _;simp only[lWt] at hw;simp only[laR];omega
 | retP=>intro b hw _;simp only[lWt] at hw;simp only[laR];omega
 | look h hk ih=>intro b hw hok;have:=hk.grows.2 hok;exact ih (by rw[this];exact hw _) hok
 | ahead h hk ih=>intro b hw hok;exact ih (hw _) hok
 | adv hk ih =>
  intro b hw hok;have h1:=ih (b:=b+2) hw hok;have h2:=hk.grows.1;simp only at h1 h2
  omega
 | fail hk ih=>intro b hw hok;have:=hk.grows.2 hok;cases this
 | @callE nt k st x st1 r st' h hk ih1 ih2 =>
  intro b hw hok;have h1:=ih1 (lwtE nt) (hk.grows.2 hok);have h2:=ih2 (b:=b+2 *(st1.i-st.i)) (hw x _ h1) hok;have h3:=h.grows.1;have h4:=hk.grows.1
  omega
 | @callP nt k st x st1 r st' h hk ih1 ih2 =>
  intro b hw hok;have h1:=ih1 (lwtP nt) (hk.grows.2 hok);have h2:=ih2 (b:=b+2 *(st1.i-st.i)) (hw x _ h1) hok;have h3:=h.grows.1;have h4:=hk.grows.1;omega
theorem Ma:∀ (l l':List Ak)(d:Nat),l.length=l'.length→(∀ (i:Nat)(x y:Ak),l[i]?=some x→l'[i]?=some y→∀ d,(Bz x d).map Prod.snd=(Bz y d).map Prod.snd)→(C6 l d).map Prod.snd=(C6 l' d).map Prod.snd
 | [],[],d,_,_=>rfl
 | [],_::_,d,h,_=>by simp at h
 | _::_,[],d,h,_=>by simp at h
 | x::l,y::l',d,hl,h=>by
  rw[C6,C6,List.map_append,List.map_append,h 0 x y rfl rfl d,Ma l l' d (by simpa using hl) (fun i x y hx hy=>h (i+1) x y (by simpa using hx) (by simpa using hy))]
theorem L9:∀ (l l':List Ab)(d:Nat),l.length=l'.length→(∀ (i:Nat)(x y:Ab),l[i]?=some x→l'[i]?=some y→∀ d,(Bw x d).map Prod.snd=(Bw y d).map Prod.snd)→(C5 l d).map Prod.snd=(C5 l' d).map Prod.snd
 | [],[],d,_,_=>rfl
 | [],_::_,d,h,_=>by simp at h
 | _::_,[],d,h,_=>by simp at h
 | x::l,y::l',d,hl,h=>by
  rw[C5,C5,List.map_append,List.map_append,h 0 x y rfl rfl d,L9 l l' d (by simpa using hl) (fun i x y hx hy=>h (i+1) x y (by simpa using hx) (by simpa using hy))]
theorem L8:∀ (l l':List (Ak×Ab))(d:Nat),l.length=l'.length→(∀ (i:Nat)(p p':Ak)(x y:Ab),l[i]?=some (p,x)→l'[i]?=some (p',y)→∀ d,(Bz p d).map Prod.snd=(Bz p' d).map Prod.snd)→
  (∀ (i:Nat) (p p':Ak) (x y:Ab),l[i]?=some (p,x)→l'[i]?=some (p',y)→∀ d,(Bw x d).map Prod.snd=(Bw y d).map Prod.snd)→(B9 l d).map Prod.snd=(B9 l' d).map Prod.snd
 | [],[],d,_,_,_=>rfl
 | [],_::_,d,h,_,_=>by simp at h
 | _::_,[],d,h,_,_=>by simp at h
 | (p,x)::l,(p',y)::l',d,hl,hp,h=>by
  rw[B9,B9,List.map_append,List.map_append,L8 l l' d (by simpa using hl) (fun i p p' x y hx hy=>hp (i+1) p p' x y (by simpa using hx) (by simpa using hy)) (fun i p p' x y hx hy=>h (i+1) p p' x y (by simpa using hx) (by simpa using hy)),
   Mz,Mz,List.map_append,List.map_append,hp 0 p p' x y rfl rfl d,h 0 p p' x y rfl rfl d]
theorem D8.parts{x y:Ak}(h:D8 x y):∀ d,(Bz x d).map Prod.snd=(Bz y d).map Prod.snd:=by
 induction h with
 | mk hl h ih=>intro d;rw[Kf,Kf,List.map_cons,List.map_cons,Ma _ _ (d+1) hl ih]
theorem Bl.parts{x y:Ab}(h:Bl x y):∀ d,(Bw x d).map Prod.snd=(Bw y d).map Prod.snd:=by
 induction h with
 | mk hl h hl2 hp hx ih ih2 =>
  intro d;rw[Ke,Ke,List.map_cons,List.map_cons,List.map_append,List.map_append,L9 _ _ (d+1) hl ih,L8 _ _ (d+1) hl2 (fun i p p' x y h1 h2=>(hp i p p' x y h1 h2).parts) ih2]
theorem Bl.deep{x y:Ab}(h:Bl x y)(m:Int):Dz m x=none↔Dz m y=none:=by
 have key:∀ x,Dz m x=none↔∀ d ∈ (Bw x 1).map Prod.snd,¬ m<(d:Int):=fun x=>by
  unfold Dz;rw[List.find?_eq_none];simp;exact⟨fun h d a=>h a d,fun h a d=>h d a⟩
 rw[key,key,h.parts 1]
theorem PR.la{s:LB}{x:Ab}{er p:Int}(h:PR s x er p):laE x≤1099511627776:=by
 have hz:laE .zero≤1099511627776:=by decide
 cases h with
 | lexErr=>exact hz
 | syn=>exact hz
 | many=>exact hz
 | deep=>exact hz
 | @ok ts _ st' t hl hr ht hok hend hm hd =>
  have h1:laE x+1≤0+2 *(st'.i-0):=hr.laCost (b:=0) (lwtE .seq) hok;have h2:=(List.getElem?_eq_some_iff.1 ht).1;have h3:=(Ji hl).1;omega
section
open Go.RowKit Go.Deep
def Nm(n:Int):Prop:=(Lit.int .i64 n).wf=true
inductive WtP:Ak→Prop
 | mk {k a nm n s ls args} (hk:Nm k∧Nm a∧Nm n) (h1:nm.length≤reachBytes) (h2:s.length≤reachBytes) (h3:ls.length * 16≤reachBytes) (h4:∀ (i:Nat) (x:LB),ls[i]?=some x→x.length≤reachBytes) (h5:args.length * 104≤reachBytes) (h6:∀ (i:Nat) (x:Ak),args[i]?=some x→WtP x):WtP (.mk k a nm n s ls args)
instance:Inhabited Ak:=⟨.zero⟩
instance:Inhabited Ab:=⟨.zero⟩
theorem len7{α:Type}:∀ {l:List α},l.length=7→∃ a b c d e f g,l=[a,b,c,d,e,f,g]
 | [a,b,c,d,e,f,g],_=>⟨a,b,c,d,e,f,g,rfl⟩
theorem Ts(b o k:Nat):(⟨b,o,none⟩:Addr).add k=⟨b,o+k,none⟩:=by
 unfold Addr.add;by_cases h:k=0
 ·subst h;simp
 ·simp[h]
theorem J0{H:Type}{P:Program}{e:TypeId}:∀ {l:List (DataW H)},(DataW.weightsAll P e l).all (·≤reachBytes)=true→∀ (i:Nat)(d:DataW H),l[i]?=some d→(d.weights P e).all (·≤reachBytes)=true
 | [],_,i,d,h=>by simp at h
 | x::l,hw,i,d,h=>by
  simp only[DataW.weightsAll,List.all_append,Ba'] at hw
  cases i with
  | zero=>simp at h;subst h;exact hw.1
  | succ i=>exact J0 hw.2 i d (by simpa using h)
section
variable {H:Type} {enc:TypeId×Value→H} {w:World}
theorem Oo{α:Type} [Inhabited α] {P:Program}{t e:TypeId}(ht:P.underlying t=some (.slice e))(size bytes:Nat)(hs:P.cellsOf e=size)(hs0:0<size)(hby:P.bytesOf e=bytes)(E:α→List Value→Prop)(Wt:α→Prop){fuel:Nat}{cs:List Value}{x:DataW H×List MemPlace}
  (h:DataW.trod enc P w 0 (fun _=>true) true fuel t cs=some x)
  (hel:∀ n,n<fuel→∀ cs' y,DataW.trod enc P w 0 (fun _=>true) true n e cs'=some y→∃ z:α,E z cs'∧((y.1.weights P e).all (·≤reachBytes)=true→Wt z)):
  ∃ (v:Value) (xs:List α) (c:Nat→List Value),cs=[v]∧Dy w (fun b=>b<w.heap.size) v xs.length size c∧(∀ (i:Nat) (z:α),xs[i]?=some z→E z (c i))∧
   ((x.1.weights P t).all (·≤reachBytes)=true→xs.length * bytes≤reachBytes∧∀ (i:Nat) (z:α),xs[i]?=some z→Wt z):=by
 rcases DataW.trod_slice ht h with⟨rfl,rfl⟩| ⟨a,len,cap,elems,rest,n,rfl,rfl,rfl,_,hlc,_,hlen,hi,_,_⟩
 ·exact⟨_,[],fun _=>[],rfl,Dy.nil_ _ _ _ _,fun i z hz=>by simp at hz,fun _=>⟨by simp,fun i z hz=>by simp at hz⟩⟩
 ·have each:∀ i,i<len→∃ q:List Value×α,w.cells? 0 (a.add (i * size)) size=some q.1∧E q.2 q.1∧(∀ d,elems[i]?=some d→(d.1.weights P e).all (·≤reachBytes)=true→Wt q.2):=fun i hlt=>by
   have:=hi i hlt;rw[hs] at this
   obtain⟨d,hd⟩:∃ d,elems[i]?=some d:=⟨elems[i],Lg' (by omega)⟩
   rw[hd] at this;obtain⟨cs',h1,h2⟩:=Option.bind_eq_some_iff.1 this;obtain⟨z,hz1,hz2⟩:=hel n (Nat.lt_succ_self n) cs' d h2;exact⟨(cs',z),h1,hz1,fun d' hd' hw=>by rw[hd] at hd';cases hd';exact hz2 hw⟩
  obtain⟨q,hq⟩:=choose_lt each;refine⟨_,(List.range len).map (fun i=>(q i).2),fun i=>(q i).1,rfl,?_,fun i z hz=>?_,fun hw=>?_⟩
  ·rw[List.length_map,List.length_range];by_cases h0:len=0
   ·subst h0;exact .inl ⟨_,_,rfl,rfl⟩
   ·obtain⟨b,o,sp⟩:=a
    have hc0:=(World.cells?_some (hq 0 (by omega)).1)
    obtain⟨v,hv⟩:∃ v,(q 0).1[0]?=some v:=⟨(q 0).1[0]'(by rw[hc0.2.1];exact hs0),Lg' _⟩
    have hcc:=hc0.2.2 0 hs0;rw[hv] at hcc;have e0:((⟨b,o,sp⟩:Addr).add (0 * size)).add 0=⟨b,o,sp⟩:=by simp[Addr.add]
    rw[e0] at hcc;have hsp:sp=none:=World.cell?_spot hcc;subst hsp
    have hb:b<w.heap.size:=by
     unfold World.cell? at hcc;rcases Nat.lt_or_ge b w.heap.size with h1|h1
     ·exact h1
     ·rw[Array.getElem?_eq_none h1] at hcc;cases hcc
    refine .inr ⟨b,o,cap,rfl,hb,hb,hlc,fun i hlt=>?_⟩;obtain⟨_,h1,h2⟩:=World.cells?_some (hq i hlt).1;refine⟨h1,fun j u hu=>?_⟩;have hj:j<size:=by rw[← h1];exact(List.getElem?_eq_some_iff.1 hu).1
    have:=h2 j hj;rw[Ts,Ts] at this;exact this.trans hu
  ·obtain⟨hlt,e⟩:=List.getElem?_eq_some_iff.1 hz;simp at hlt e;subst e;exact(hq i hlt).2.1
  ·rw[DataW.weights,ht] at hw;simp only[List.all_cons,List.all_append,Ba',decide_eq_true_eq,List.length_map,hby] at hw;refine⟨?_,fun i z hz=>?_⟩
   ·rw[List.length_map,List.length_range,← hlen];exact Nat.le_trans (Nat.mul_le_mul_right _ (Nat.le_add_right _ _)) hw.1
   ·obtain⟨hlt,e⟩:=List.getElem?_eq_some_iff.1 hz;simp at hlt e;subst e;have hd:elems[i]?=some elems[i]:=Lg' (by omega);exact(hq i hlt).2.2 _ hd (J0 hw.2.1 i _ (by rw[List.getElem?_map,hd];rfl))
theorem Pa:prog.cellsOf 25=7:=by kernel_rfl
theorem Mn:prog.cellsOf 9=1:=by kernel_rfl
theorem bytesPat:prog.bytesOf 25=104:=by kernel_rfl
theorem Zo:prog.bytesOf 9=16:=by kernel_rfl
theorem Rd:prog.cellsOf 3=1:=by kernel_rfl
theorem Rc:prog.cellsOf 2=1:=by kernel_rfl
theorem Pb:prog.cellsOf 22=1:=by kernel_rfl
theorem Wp:prog.cellsOf 23=1:=by kernel_rfl
theorem L7{fuel:Nat}{cs:List Value}{x:DataW H×List MemPlace}(h:DataW.trod enc prog w 0 (fun _=>true) true fuel 22 cs=some x):
  ∃ (v:Value) (ls:List LB) (c:Nat→List Value),cs=[v]∧Dy w (fun b=>b<w.heap.size) v ls.length 1 c∧(∀ (i:Nat) (z:LB),ls[i]?=some z→c i=Of z)∧
   ((x.1.weights prog 22).all (·≤reachBytes)=true→ls.length * 16≤reachBytes∧∀ (i:Nat) (z:LB),ls[i]?=some z→z.length≤reachBytes):=by
 refine Oo (P:=prog) underlying22 1 16 Mn (by decide) Zo (fun z cs=>cs=Of z) (fun z=>z.length≤reachBytes) h (fun n _ cs' y hy=>?_);obtain⟨s,rfl,rfl,_⟩:=DataW.trod_string underlying9 hy;exact⟨s.data.toList,by simp[Of],fun hw=>by simpa [DataW.weights] using hw⟩
theorem Pz:∀ (N fuel:Nat),fuel<N→∀ (cs:List Value)(x:DataW H×List MemPlace),DataW.trod enc prog w 0 (fun _=>true) true fuel 25 cs=some x →
  ∃ t:Ak,Bd w (fun b=>b<w.heap.size) t cs∧((x.1.weights prog 25).all (·≤reachBytes)=true→WtP t)
 | 0,_,h,_,_,_=>absurd h (Nat.not_lt_zero _)
 | N+1,fuel,hN,cs,x,h=>by
  obtain⟨xs,n,rfl,rfl,hcl,hxl,hf⟩:=DataW.trod_struct underlying25 h;rw[Pa] at hcl;have hxl:xs.length=7:=hxl;obtain⟨x0,x1,x2,x3,x4,x5,x6,rfl⟩:=len7 hxl;obtain⟨v0,v1,v2,v3,v4,v5,v6,rfl⟩:=len7 hcl;have h0:=hf 0 _ rfl;have h1:=hf 1 _ rfl;have h2:=hf 2 _ rfl;have h3:=hf 3 _ rfl;have h4:=hf 4 _ rfl;have h5:=hf 5 _ rfl;have h6:=hf 6 _ rfl;simp only[List.getElem_toArray,List.getElem_cons_zero,List.getElem_cons_succ,Rd,Rc,Mn,Pb,Wp,List.drop_zero,List.drop_succ_cons,List.take_succ_cons,List.take_zero,List.getElem?_cons_zero,List.getElem?_cons_succ] at h0 h1 h2 h3 h4 h5 h6;obtain⟨k,e0,rfl,w0⟩:=DataW.trod_int underlying3 h0;obtain⟨a,e1,rfl,w1⟩:=DataW.trod_int underlying3 h1;obtain⟨nm,e2,rfl,w2⟩:=DataW.trod_string underlying9 h2;obtain⟨m,e3,rfl,w3⟩:=DataW.trod_int underlying2 h3;obtain⟨s,e4,rfl,w4⟩:=DataW.trod_string underlying9 h4;obtain⟨u5,ls,c5,e5,s5,l5,b5⟩:=L7 h5;obtain⟨u6,args,c6,e6,s6,l6,b6⟩:=Oo (P:=prog) (α:=Ak) (hel:=fun q hq cs' y hy=>Pz N q (by omega) cs' y hy) underlying23 7 104 Pa (by decide) bytesPat (E:=fun z cs=>Bd w (fun b=>b<w.heap.size) z cs) (Wt:=WtP) h6;cases e0;cases e1;cases e2;cases e3;cases e4;cases e5;cases e6;refine⟨.mk k a nm.data.toList m s.data.toList ls args,?_,fun hw=>?_⟩
  ·have:=Bd.mk (w:=w) (ok:=fun b=>b<w.heap.size) (k:=k) (a:=a) (nm:=nm.data.toList) (n:=m) (s:=s.data.toList) c5 c6 s5 l5 s6 l6;simpa using this
  ·rw[DataW.weights,underlying25] at hw;simp[DataW.weightsEach,DataW.weights] at hw;obtain⟨hw2,hw4,hw5,hw6⟩:=hw;obtain⟨p1,p2⟩:=b5 (by simpa using hw5);obtain⟨p3,p4⟩:=b6 (by simpa using hw6);exact .mk ⟨w0,w1,w3⟩ (by simpa using hw2) (by simpa using hw4) p1 p2 p3 p4
end
theorem Se{P:Program}{w:World}{r:Reach}{base:Nat}{t:TypeId}{v:Value}{fs:Array Field}(ht:P.underlying t=some (.struct fs))(h:Value.okWide P w r base t v):∃ cs,v = .agg cs:=by
 unfold Value.okWide at h;rw[ht] at h;obtain⟨cs,rfl,_⟩:=h;exact⟨cs,rfl⟩
theorem Tl{H:Type}{P:Program}{ts:List TypeId}{ds:List (DataW H)}(h:(DataW.weightsEach P ts ds).all (·≤reachBytes)=true){j:Nat}{t:TypeId}{d:DataW H}(ht:ts[j]?=some t)(hd:ds[j]?=some d):(d.weights P t).all (·≤reachBytes)=true :=
 List.all_eq_true.2 fun n hn=>List.all_eq_true.1 h n (DataW.weights_mem_each ht hd n hn)
theorem Ly:laidOutB prog=true:=by kernel_rfl
section
variable {H:Type} {enc:TypeId×Value→H} {w:World}
theorem S3{cs:Array Value}{d:DataW H}{p:List MemPlace}(h:DataW.Trod enc prog w 0 (fun _=>true) true 25 (.agg cs) d p)(hw:(d.weights prog 25).all (·≤reachBytes)=true):
  ∃ (k a:Int) (nm:LB) (n:Int) (s:LB) (ls:List LB) (args:List Ak) (A5:Option Addr) (n5 c5:Nat) (A6:Option Addr) (n6 c6:Nat),
   cs = #[vI k,vI a,vS nm,vI n,vS s,.slice A5 n5 c5,.slice A6 n6 c6]∧Bd w (fun b=>b<w.heap.size) (.mk k a nm n s ls args) [vI k,vI a,vS nm,vI n,vS s,.slice A5 n5 c5,.slice A6 n6 c6]∧WtP (.mk k a nm n s ls args):=by
 obtain⟨fuel,hf⟩:=h;obtain⟨t,hx,hwt⟩:=Pz (fuel+1) fuel (Nat.lt_succ_self _) _ _ hf;have hwt:=hwt hw;have hcs:(Value.agg cs).cells.toList=cs.toList:=rfl;rw[hcs] at hx;generalize hl:cs.toList=l at hx;have hx0:=hx
 cases hx with
 | mk c5 c6 h5 e5 h6 e6 =>
  obtain⟨_,_,rfl⟩:=h5.form;obtain⟨_,_,rfl⟩:=h6.form;refine⟨_,_,_,_,_,_,_,_,_,_,_,_,_,?_,hx0,hwt⟩;rw[← Array.toArray_toList (xs:=cs),hl]
end
end
theorem inN_of{n:Int}(h:Nm n):inN n:=by
 unfold Nm at h;simp only[Lit.wf,IntKind.min,IntKind.max,IntKind.signed,IntKind.bits,Ba',decide_eq_true_eq,if_true] at h;unfold inN;omega
def Cj:List LB→Int→Int
 | [],n=>n
 | x::l,n=>if 0<n then Cj l (n-(x.length+1))else n
mutual
def Dd:Ak→Int→Int
 | .mk _ _ nm _ s ls args,n=>Dh args (Cj ls (n-(nm.length+s.length+1)))
def Dh:List Ak→Int→Int
 | [],n=>n
 | x::l,n=>if 0<n then Dh l (Dd x n)else n
end
theorem Rl{ls:List LB}{i:Nat}{x:LB}(h:ls[i]?=some x)(n:Int)(hn:0<n):Cj (ls.drop i) n=Cj (ls.drop (i+1)) (n-(x.length+1)):=by
 obtain⟨hi,e⟩:=List.getElem?_eq_some_iff.1 h;rw[List.drop_eq_getElem_cons hi,e,Cj,if_pos hn]
theorem longPs_at{l:List Ak}{i:Nat}{x:Ak}(h:l[i]?=some x)(n:Int)(hn:0<n):Dh (l.drop i) n=Dh (l.drop (i+1)) (Dd x n):=by
 obtain⟨hi,e⟩:=List.getElem?_eq_some_iff.1 h;rw[List.drop_eq_getElem_cons hi,e,Dh,if_pos hn]
theorem Lg:∀ (l:List LB)(n:Int),n≤0→Cj l n=n
 | [],_,_=>rfl
 | _::_,_,h=>by rw[Cj,if_neg (by omega)]
theorem Pv:∀ (l:List Ak)(n:Int),n≤0→Dh l n=n
 | [],_,_=>by rw[Dh]
 | _::_,_,h=>by rw[Dh,if_neg (by omega)]
theorem Gk:∀ (l:List LB)(n:Int),Cj l n≤n
 | [],_=>by simp[Cj]
 | x::l,n=>by
  rw[Cj];split
  ·have:=Gk l (n-(x.length+1));omega
  ·omega
mutual
theorem Is:∀ (x:Ak)(n:Int),Dd x n≤n
 | .mk k a nm m s ls args,n=>by
  rw[Dd];have h1:=Hk args (Cj ls (n-(nm.length+s.length+1)));have h2:=Gk ls (n-(nm.length+s.length+1));omega
theorem Hk:∀ (l:List Ak)(n:Int),Dh l n≤n
 | [],n=>by simp[Dh]
 | x::l,n=>by
  rw[Dh];have h1:=Hk l (Dd x n);have h2:=Is x n;split <;> omega
end
theorem Lh:∀ (l:List LB)(n:Int),0<Cj l n→n≤65536→∀ x ∈ l,x.length≤65536
 | [],_,_,_=>fun x hx=>by cases hx
 | y::l,n,h,hn=>fun x hx=>by
  rw[Cj] at h;split at h
  ·have h1:=Gk l (n-(y.length+1));rcases List.mem_cons.1 hx with rfl|hx
   ·omega
   ·exact Lh l _ h (by omega) x hx
  ·omega
mutual
theorem Mv:∀ (x:Ak)(n:Int),WtP x→0<Dd x n→n≤65536→Dd x n+szP x≤n∧SwP x
 | .mk k a nm m s ls args,n,.mk hk h1 h2 h3 h4 h5 h6,h,hn=>by
  rw[Dd] at h ⊢;obtain⟨g1,g2⟩:=Pw args _ h6 h (by have:=Gk ls (n-(nm.length+s.length+1));omega);have g3:=Gk ls (n-(nm.length+s.length+1));have g4:=Hk args (Cj ls (n-(nm.length+s.length+1)));have g5:=Lh ls _ (by omega) (by omega:n-(nm.length+s.length+1)≤65536);simp only[szP];exact⟨by push_cast;omega,⟨by omega,inN_of hk.2.2,by omega,g5⟩,g2⟩
theorem Pw:∀ (l:List Ak)(n:Int),(∀ (i:Nat)(x:Ak),l[i]?=some x→WtP x)→0<Dh l n→n≤65536→Dh l n+Ey l≤n∧Qw l
 | [],n,_,h,_=>by rw[Dh] at h ⊢;simp only[Ey];exact⟨by omega,trivial⟩
 | x::l,n,hl,h,hn=>by
  rw[Dh] at h ⊢;split at h
  ·rename_i h0
   rw[if_pos h0];have g:=Is x n;obtain⟨g1,g2⟩:=Pw l _ (fun i y hy=>hl (i+1) y hy) h (by omega);have g5:=Hk l (Dd x n);obtain⟨g3,g4⟩:=Mv x n (hl 0 x rfl) (by omega) hn;simp only[Ey];exact⟨by push_cast;omega,g4,g2⟩
  ·omega
end
theorem Vh{s:LB}{us:List Tok}{T:Ab}{j:Nat}{u:Tok}(hl:Da s = .ok us)(hr:Run us (body .seq) ⟨0,true⟩ (.e T) ⟨j,true⟩)(hu:us[j]?=some u)(hk:u.k=0){x:Ab}{er p:Int}(h:PR s x er p):
  (er=3∧x = .zero∧4096<szE T)∨(er=22∧x = .zero∧szE T≤4096∧Dz 200 T≠none)∨(er=0∧x=T∧szE T≤4096∧Dz 200 T=none):=by
 have key:∀ {ts':List Tok} {x':Ab} {st':St} {t':Tok},Da s = .ok ts'→Run ts' (body .seq) ⟨0,true⟩ (.e x') st'→ts'[st'.i]?=some t'→x'=T∧st'=⟨j,true⟩∧t'=u:=by
  intro ts' x' st' t' hl' hr' ht';rw[hl] at hl';cases hl';obtain⟨e1,e2⟩:=hr.det hr';cases e1;cases e2;rw[hu] at ht';cases ht';exact⟨rfl,rfl,rfl⟩
 cases h with
 | lexErr h=>rw[hl] at h;cases h
 | syn hl' hr' ht' hb=>obtain⟨rfl,rfl,rfl⟩:=key hl' hr' ht';exact(hb.elim (fun h=>by cases h) (fun h=>h hk)).elim
 | many hl' hr' ht' _ _ hm=>obtain⟨rfl,rfl,rfl⟩:=key hl' hr' ht';exact .inl ⟨rfl,rfl,hm⟩
 | deep hl' hr' ht' _ _ hm hd=>obtain⟨rfl,rfl,rfl⟩:=key hl' hr' ht';exact .inr (.inl ⟨rfl,rfl,hm,by rw[hd];simp⟩)
 | ok hl' hr' ht' _ _ hm hd=>obtain⟨rfl,rfl,rfl⟩:=key hl' hr' ht';exact .inr (.inr ⟨rfl,rfl,hm,hd⟩)
theorem lx116{t0:LB}{k0:List Sp}(h0:Bg t0 k0){m:List (List UInt8×LB)}{mk:List (List Sp×List Sp)}(harm:Bg (Gj true m) (Ex true mk)):Bg ([109,97,116,99,104,32]++(t0++([32,119,105,116,104,32]++(Gj true m++([32,101,110,100]))))) (W [109,97,116,99,104]::(k0++(W [119,105,116,104]::(Ex true mk++([W [101,110,100]]))))):=fun r hr=>by
 simp only[Ls',Lp',List.nil_append];rw[Pq (B4 _),Av,h0.sep (B4 _),Av,J9 (B4 _),Av,harm.sep (B4 _),Av,Pp hr];simp only[Option.map_map];exact map_eq (fun z=>by simp) _
def Fe:Ab:=.mk 5 0 [] 0 [] [] [] []
theorem Qn:Be Fe=true:=by decide
def Ni(p:Ak):LB:=[109,97,116,99,104,32,40,41,32,119,105,116,104,32]++(txP p++[32,45,62,32,40,41,32,101,110,100])
theorem Zp{p:Ak}(h:Ct p=true):At (Ni p)=some ((W [109,97,116,99,104]::(tkE Fe++(W [119,105,116,104]::(Ex true (E9 [(p,Fe)])++[W [101,110,100]]))))++[(0,[],0)]):=by
 have hp:=Vf h
 have ha:=Wb (arms:=[(p,Fe)]) (fun i q x hi=>by
  cases i with
  | zero=>simp at hi;obtain⟨rfl,rfl⟩:=hi;exact hp
  | succ i=>simp at hi) (fun i q x hi=>by
  cases i with
  | zero=>simp at hi;obtain⟨rfl,rfl⟩:=hi;exact(lexE _ _ (Nat.lt_succ_self _) Qn).1
  | succ i=>simp at hi)
 have key:=lx116 (lexE (szE Fe+1) Fe (Nat.lt_succ_self _) Qn).1 (Og ha true) [] Sep.nil_;rw[List.append_nil,show At []=some [(0,[],0)] by rfl] at key
 have e:Ni p=[109,97,116,99,104,32]++(txE Fe++([32,119,105,116,104,32]++(Gj true (Cr [(p,Fe)])++[32,101,110,100]))):=by
  have e1:txE Fe=[40,41]:=by decide
  have e2:Cr [(p,Fe)]=[(txP p,txE Fe)]:=by simp[Cr,txA]
  rw[e2,e1];simp[Ni,Gj]
 rw[e,key];rfl
theorem case_run{p:Ak}(h:Ct p=true){us:List Tok}(hE:Gs us)(hm:us.map Lr=(W [109,97,116,99,104]::(tkE Fe++(W [119,105,116,104]::(Ex true (E9 [(p,Fe)])++[W [101,110,100]]))))++[(0,[],0)]):
  ∃ a y q z,D8 p q∧Run us (body .seq) ⟨0,true⟩ (.e (.mk 16 a [] 0 [] [] [y] [(q,z)])) ⟨(W [109,97,116,99,104]::(tkE Fe++(W [119,105,116,104]::(Ex true (E9 [(p,Fe)])++[W [101,110,100]])))).length,true⟩∧∃ b,us[(W [109,97,116,99,104]::(tkE Fe++(W [119,105,116,104]::(Ex true (E9 [(p,Fe)])++[W [101,110,100]])))).length]?=some ⟨0,b,[],0⟩:=by
 have hs:=B6.of_map hm;have hu:Ok Fe:=okE _ _ (Nat.lt_succ_self _) Qn;obtain⟨a0,t0⟩:=B6.head hs;obtain⟨a2,t2⟩:=B6.mid (q:=(0,[],0)) (b:=[]) hs
 have IA:∀ (i:Nat) (q:Ak) (x:Ab),[(p,Fe)][i]?=some (q,x)→Ct q=true∧Ok x:=fun i q x hi=>by
  cases i with
  | zero=>simp at hi;obtain⟨rfl,rfl⟩:=hi;exact⟨h,hu⟩
  | succ i=>simp at hi
 obtain⟨y,ns,hy,hns,hr⟩:=O3 (k:=16) (a:=a0) hE hu (by simp) IA hs.left.tail;obtain⟨⟨q,z⟩,rfl⟩:=Ei hns.1.symm;have hq:=(hns.2 0 _ _ rfl rfl).1;rw[Nat.zero_add] at t2;refine⟨a0,y,q,z,hq,Gy t2 (by rfl) (Mq (.inl ⟨rfl,rfl⟩) t0 ?_),a2,t2⟩;rw[show(W [109,97,116,99,104]::(tkE Fe++(W [119,105,116,104]::(Ex true (E9 [(p,Fe)])++[W [101,110,100]])))).length=0+1+(tkE Fe).length+1+(Ex true (E9 [(p,Fe)])).length+1 by simp only[Lc',La',Ln'];omega];exact hr
theorem case_pr{p:Ak}(h:Ct p=true){y:Ab}{er pos:Int}(hp:PR (Ni p) y er pos):
  ((er=4∨er=3∨er=22)∧y = .zero)∨(er=0∧∃ a z q u,D8 p q∧y = .mk 16 a [] 0 [] [] [z] [(q,u)]):=by
 by_cases hl:(Ni p).length≤4096
 ·obtain⟨us,hu,hm⟩:=I6 hl (Zp h);obtain⟨a,z,q,u,hq,hr,b,hb⟩:=case_run h (Pf (Ji hu)) hm
  rcases Vh hu hr hb rfl hp with⟨e,e2,_⟩| ⟨e,e2,_,_⟩| ⟨e,rfl,_,_⟩
  ·exact .inl ⟨.inr (.inl e),e2⟩
  ·exact .inl ⟨.inr (.inr e),e2⟩
  ·exact .inr ⟨e,a,z,q,u,hq,rfl⟩
 ·have hx:Da (Ni p)= .error (4,0):=by unfold Da;rw[if_pos (by omega)]
  cases hp with
  | lexErr h2=>rw[hx] at h2;cases h2;exact .inl ⟨.inl rfl,rfl⟩
  | syn h2=>rw[hx] at h2;cases h2
  | many h2=>rw[hx] at h2;cases h2
  | deep h2=>rw[hx] at h2;cases h2
  | ok h2=>rw[hx] at h2;cases h2
theorem Ry{m:Bool}{x t:LB}{f:Int}(h:E0 m x=(t,f))(hf:f≠0):t=[]:=by
 unfold E0 at h;split at h
 ·split at h
  ·cases h;rfl
  ·cases h;exact absurd rfl hf
 ·cases h;rfl
theorem Xv{x:Ak}{t:LB}{f:Int}(h:Ij x=(t,f))(hf:f≠0):t=[]:=by
 unfold Ij at h;split at h
 ·cases h;rfl
 ·split at h
  ·cases h;rfl
  ·exact Ry h hf
theorem showPR_ok{x:Ak}{t:LB}(h:Ij x=(t,0)):t=txP x∧Ct x=true∧(txP x).length≤4096:=by
 unfold Ij at h;split at h
 ·cases h
 ·split at h
  ·cases h
  ·exact V9 h
theorem eqP_dec(x y:Ak):eqP false x y=true↔D8 x y:=Jk _ x y (Nat.lt_succ_self _)
section
attribute [local go_sem ↓] Go.wp_at_zero Go.wp_at_succ
theorem J3(s:ByteArray)(hs:s.size≤9223372036854775807)(w:World)(hV:Dx w):
  Calls prog 18 #[.string s] w fun e w'=>∃ (k a:Int) (nm:LB) (n:Int) (s':LB) (ls:List LB) (args:List Ab) (arms:List (Ak×Ab)) (A5:Option Addr) (c5:Nat) (A6:Option Addr) (c6:Nat) (A7:Option Addr) (c7:Nat) (er at_:Int),
   e = .returned (.tuple #[.agg #[vI k,vI a,vS nm,vI n,vS s',.slice A5 ls.length c5,.slice A6 args.length c6,.slice A7 arms.length c7],vI er,vI at_])∧Aj w' (fun b=>b<w'.heap.size) (.mk k a nm n s' ls args arms) [vI k,vI a,vS nm,vI n,vS s',.slice A5 ls.length c5,.slice A6 args.length c6,.slice A7 arms.length c7]∧PR s.data.toList (.mk k a nm n s' ls args arms) er at_∧Fr [] w w':=by
 refine(Q3 s hs w hV).mono ?_;rintro e w' ⟨k,a,nm,n,s',ls,args,arms,A5,n5,c5,A6,n6,c6,A7,n7,c7,er,at_,rfl,hx,hp,hf⟩
 have hl:n5=ls.length∧n6=args.length∧n7=arms.length:=by
  cases hx with
  | mk c5' c6' cp ce h5 e5 h6 e6 h7 e7 e8=>exact⟨h5.len,h6.len,h7.len⟩
 obtain⟨rfl,rfl,rfl⟩:=hl;exact⟨k,a,nm,n,s',ls,args,arms,A5,c5,A6,c6,A7,c7,er,at_,rfl,hx.keep (fun b _ hb=>⟨hb,rfl,hb⟩),hp,hf⟩
def LPC(N:Nat):Prop:=∀ (k a:Int)(nm:LB)(n:Int)(s:LB)(ls:List LB)(args:List Ak)(A5 A6:Option Addr)(c5 c6:Nat)(left:Int)(w:World)(ok:Nat→Prop),szP (.mk k a nm n s ls args)<N→WtP (.mk k a nm n s ls args)→Bd w ok (.mk k a nm n s ls args) [vI k,vI a,vS nm,vI n,vS s,.slice A5 ls.length c5,.slice A6 args.length c6]→-4503599627370496≤left→left≤65536 →
  Calls prog 13 #[.agg #[vI k,vI a,vS nm,vI n,vS s,.slice A5 ls.length c5,.slice A6 args.length c6],vI left] w fun e w'=>e = .returned (vI (Dd (.mk k a nm n s ls args) left))∧Fr [] w w'
theorem Xc(N:Nat)(ih:LPC N):LPC (N+1):=by
 intro k a nm n s ls args A5 A6 c5 c6 left w ok hN hW hx hlo hhi
 cases hW with
 | mk hk h1 h2 h3 h4 h5' h6' =>
 cases hx with
 | mk d5 d6 h5 e5 h6 e6 =>
 rw[show szP (.mk k a nm n s ls args)=1+Ey args by simp[szP]] at hN;have HN:=Hz hN;have IH:=Hz ih;have H5:=Hz h5;have H6:=Hz h6;have E5:Hid (∀ (i:Nat) (x:LB),ls[i]?=some x→d5 i=Of x):=Hz e5;have E6:Hid (∀ (i:Nat) (x:Ak),args[i]?=some x→Bd w ok x (d6 i)):=Hz e6;have H4:=Hz h4;have HW6:Hid (∀ (i:Nat) (x:Ak),args[i]?=some x→WtP x):=Hz h6';have b1:(nm.length:Int)≤140737488351232:=by unfold reachBytes at h1;omega
 have b2:(s.length:Int)≤140737488351232:=by unfold reachBytes at h2;omega
 have b3:(ls.length:Int)≤140737488351232:=by unfold reachBytes at h3;omega
 have b4:(args.length:Int)≤140737488351232:=by unfold reachBytes at h5';omega
 obtain⟨R,hR⟩:∃ R,Dd (.mk k a nm n s ls args) left=R:=⟨_,rfl⟩
 rw[hR];have HR:Hid (Dh (args.drop 0) (Cj (ls.drop 0) (left-(nm.length+s.length+1)))=R):=Hz (by rw[← hR,Dd];rfl);have f0:=(Fr.refl [] w).alloc (.cells #[vI k,vI a,vS nm,vI n,vS s,.slice A5 ls.length c5,.slice A6 args.length c6] 25);have q0:=Ad w (.cells #[vI k,vI a,vS nm,vI n,vS s,.slice A5 ls.length c5,.slice A6 args.length c6] 25);clear hN ih h5 e5 h6 e6 h1 h2 h3 h4 h5' h6' hk hR;go_enter func13,ntmps13;go_wp2_with fail
 generalize w.alloc (.cells #[vI k,vI a,vS nm,vI n,vS s,.slice A5 ls.length c5,.slice A6 args.length c6] 25)=x at *
 generalize hT:w.heap.size=T at *
 go_loopw [1,5] (fun lv iv wr=>∃ (i:Nat) (L:Int),lv=vI L∧iv=vI i∧i≤ls.length∧-9007199254740992≤L∧L≤65536∧Hid (Dh (args.drop 0) (Cj (ls.drop i) L)=R)∧wr=x) (fun lv iv wr=>ls.length-(intOf iv).toNat)
 case atStart=>exact⟨0,_,rfl,rfl,by omega,by omega,by omega,HR,rfl⟩
 case round =>
  obtain⟨i,L,rfl,rfl,hi,hl1,hl2,HI,rfl⟩:=hrel;clear HR;obtain⟨⟨l0,l1,l2,l3,l4,l5,l6⟩,_⟩:=Aq q0;have q1:(0:Int)≤(i:Int):=by omega
  by_cases hlt:i<ls.length∧0<L
  ·obtain⟨hlt,hL⟩:=hlt
   obtain⟨y,hy⟩:∃ y,ls[i]?=some y:=⟨ls[i],Lg' hlt⟩
   obtain⟨g,og,rfl,_,hg,_,_,hc⟩:=H5.out.row hlt;rw[E5.out i y hy] at hc;have x0:wr.cell? ⟨g,og+i,none⟩=some (vS y):=(f0.cell (p:=⟨g,og+i,none⟩) hg (fun x=>by cases x)).trans (by have:=hc 0 _ rfl;simpa using this);have hyl:(y.length:Int)≤140737488351232:=by have:=H4.out i y hy;unfold reachBytes at this;omega
   have hI:=HI.out;rw[Rl hy L hL] at hI;have HJ:=Hz hI;clear hc hy hI HI;have q2:(i:Int)<(ls.length:Int):=by omega
   go_wp2_with fail
   go_roundw
   case rel=>exact⟨i+1,_,rfl,by simp,by omega,by omega,by omega,HJ,(by first|rfl|trivial)⟩
   case measure=>simp[intOf];omega
  ·have HQ:Hid (Dh (args.drop 0) L=R):=Hz (by
    have:=HI.out
    by_cases h:i<ls.length
    ·rwa [Lg _ _ (by omega)] at this
    ·rwa [List.drop_eq_nil_of_le (show ls.length≤i by omega)] at this)
   clear HI;have hcc:¬ (i:Int)<(ls.length:Int)∨((i:Int)<(ls.length:Int)∧¬ 0<L):=by omega
   clear hlt
   rcases hcc with h1|⟨h1,h2⟩
   all_goals
    go_wp2_with fail
    try clear h2
    clear h1 q1 l0 l1 l2 l3 l4 l5 l6 hi
    have hw5:∃ w5,w5=wr:=⟨_,rfl⟩
    obtain⟨w5,hw5⟩:=hw5;subst hw5
    go_loopw [1,6] (fun lv iv wq=>∃ (i:Nat) (L:Int),lv=vI L∧iv=vI i∧i≤args.length∧L≤65536∧Hid (Dh (args.drop i) L=R)∧Fr [] w5 wq) (fun lv iv wq=>args.length-(intOf iv).toNat)
    case atStart=>exact⟨0,L,rfl,rfl,by omega,hl2,HQ,Fr.refl _ _⟩
    case round =>
     obtain⟨i,L,rfl,rfl,hi,hl2,HI,fr⟩:=hrel;clear HQ;have q1:(0:Int)≤(i:Int):=by omega
     have q3:=fr.keep q0 nE;obtain⟨⟨l0,l1,l2,l3,l4,l5,l6⟩,_⟩:=Aq q3;by_cases hlt:i<args.length∧0<L
     ·obtain⟨hlt,hL⟩:=hlt
      obtain⟨y,hy⟩:∃ y,args[i]?=some y:=⟨args[i],Lg' hlt⟩
      obtain⟨g,og,rfl,_,hg,_,_,hc⟩:=H6.out.row hlt;have hI:=HI.out;rw[longPs_at hy L hL] at hI;have hyy:=E6.out i y hy;have hwy:=HW6.out i y hy;have hzy:=Gz hy;have hle:=Is y L
      generalize d6 i=di at *
      have hyw:=hyy.keep (w':=wr) (ok':=ok) (Sh.of_fr (f0.trans fr) (fun b hb _=>⟨hb,fun x=>by cases x⟩))
      cases hyy with
      | @mk k2 a2 nm2 n2 s2 ls2 args2 v5 v6 _ _ r5 _ r6 _ =>
      obtain⟨A52,cc52,rfl⟩:=r5.form;obtain⟨A62,cc62,rfl⟩:=r6.form;clear r5 r6;have cX:=Hz (IH.out k2 a2 nm2 n2 s2 ls2 args2 A52 A62 cc52 cc62 L wr ok (by have:=HN.out;omega) hwy hyw (by omega) hl2);obtain⟨x0,x1,x2,x3,x4,x5,x6⟩:=Vs hg (f0.trans fr) hc;have HJ:=Hz hI
      generalize Dd (.mk k2 a2 nm2 n2 s2 ls2 args2) L=L2 at *
      clear hc hy hI HI hwy hyw hzy;have q2:(i:Int)<(args.length:Int):=by omega
      go_wp2_with fail;refine cX.out.mono ?_;rintro e w6 ⟨rfl,f6⟩;go_wp2_with fail
      go_roundw
      case rel=>exact⟨i+1,_,rfl,by simp,by omega,by omega,HJ,fr.trans f6⟩
      case measure=>simp[intOf];omega
     ·have hQ:L=R:=by
       have:=HI.out;by_cases h:i<args.length
       ·rwa [Pv _ _ (by omega)] at this
       ·rwa [List.drop_eq_nil_of_le (show args.length≤i by omega)] at this
      subst hQ;clear HI;have hcc:¬ (i:Int)<(args.length:Int)∨((i:Int)<(args.length:Int)∧¬ 0<L):=by omega
      clear hlt
      rcases hcc with h1|⟨h1,h2⟩
      all_goals
       go_wp2_with fail;go_ret;exact⟨rfl,f0.trans fr⟩
theorem Mu:∀ N,LPC N
 | 0=>by intro _ _ _ _ _ _ _ _ _ _ _ _ _ _ h;exact absurd h (Nat.not_lt_zero _)
 | N+1=>Xc N (Mu N)
end
theorem Mt:∀ (l:List LB)(n:Int),0<Cj l n→Cj l n+l.length≤n
 | [],n,h=>by rw[Cj];simp
 | y::l,n,h=>by
  rw[Cj] at h ⊢;split at h
  ·rename_i h0
   rw[if_pos h0];have g:=Mt l _ h;rw[Lc']
   push_cast
   omega
  ·omega
mutual
theorem Pu:∀ (x:Ak)(n:Int),0<Dd x n→Dd x n+laP x≤n
 | .mk k a nm m s ls args,n,h=>by
  rw[Dd] at h ⊢;have g1:=Rn args _ h;have g4:=Hk args (Cj ls (n-(nm.length+s.length+1)));have g5:=Mt ls (n-(nm.length+s.length+1)) (by omega);simp only[laP]
  push_cast
  omega
theorem Rn:∀ (l:List Ak)(n:Int),0<Dh l n→Dh l n+Hd l≤n
 | [],n,h=>by rw[Dh];simp[Hd]
 | x::l,n,h=>by
  rw[Dh] at h ⊢;split at h
  ·rename_i h0
   rw[if_pos h0];have g1:=Rn l _ h;have g5:=Hk l (Dd x n);have g3:=Pu x n (by omega);simp only[Hd]
   push_cast
   omega
  ·omega
end
section
attribute [local go_sem ↓] Go.wp_at_zero Go.wp_at_succ
theorem Ow(k1 a1:Int)(nm1:LB)(n1:Int)(s1:LB)(ls1:List LB)(args1:List Ak)(A51:Option Addr)(z5 c51:Nat)(A61:Option Addr)(z6 c61:Nat)(w:World)(hE:Dx w)(hx:Bd w (fun b=>b<w.heap.size) (.mk k1 a1 nm1 n1 s1 ls1 args1) [vI k1,vI a1,vS nm1,vI n1,vS s1,.slice A51 z5 c51,.slice A61 z6 c61])(hW:WtP (.mk k1 a1 nm1 n1 s1 ls1 args1)):
  Calls prog 7 #[.agg #[vI k1,vI a1,vS nm1,vI n1,vS s1,.slice A51 z5 c51,.slice A61 z6 c61]] w fun e w'=>e = .returned (.bool true)∧Fr [] w w':=by
 have hl:z5=ls1.length∧z6=args1.length:=by
  cases hx with
  | mk c5' c6' h5 e5 h6 e6=>exact⟨h5.len,h6.len⟩
 obtain⟨rfl,rfl⟩:=hl;have HE:=Hz hE;have cA:=fun w hE=>Hz (I3 w hE)
 have fb:=(Fr.refl [] w).alloc (.cells #[vI k1,vI a1,vS nm1,vI n1,vS s1,.slice A51 ls1.length c51,.slice A61 args1.length c61] 25);have HX:=Hz (hx.fr fb);have HW:=Hz hW;have q1:=Ad w (.cells #[vI k1,vI a1,vS nm1,vI n1,vS s1,.slice A51 ls1.length c51,.slice A61 args1.length c61] 25);have cL:=fun w hx=>Hz (Mu _ k1 a1 nm1 n1 s1 ls1 args1 A51 A61 c51 c61 65536 w (fun b=>b<w.heap.size) (Nat.lt_succ_self _) HW.out hx (by omega) (by omega))
 clear hE hx hW;go_enter func7,ntmps7;go_wp2_with fail
 generalize w.alloc (.cells #[vI k1,vI a1,vS nm1,vI n1,vS s1,.slice A51 ls1.length c51,.slice A61 args1.length c61] 25)=y1 at *
 generalize w.heap.size=T1 at *
 refine(cA _ (HE.out.fr fb)).out.mono ?_;rintro e w1 ⟨rfl,f1⟩;replace HX:=Hz (HX.out.fr f1);replace q1:=f1.keep q1 nE;have F1:=fb.trans f1;clear fb f1;obtain⟨⟨l0,l1,l2,l3,l4,l5,l6⟩,_⟩:=Aq q1;go_wp2_with fail;refine(cL _ HX.out).out.mono ?_;rintro e w2 ⟨rfl,f2⟩;replace HX:=Hz (HX.out.fr f2);replace q1:=f2.keep q1 nE;have F:=F1.trans f2;clear F1 f2 l0 l1 l2 l3 l4 l5 l6;obtain⟨⟨l0,l1,l2,l3,l4,l5,l6⟩,_⟩:=Aq q1;by_cases hlo:Dd (.mk k1 a1 nm1 n1 s1 ls1 args1) 65536≤0
 ·go_wp2_with fail;go_ret;exact⟨rfl,F⟩
 ·have hla:=Pu _ 65536 (show 0<Dd (.mk k1 a1 nm1 n1 s1 ls1 args1) 65536 by omega);obtain⟨hsz,hsw⟩:=Mv _ 65536 HW.out (show 0<Dd (.mk k1 a1 nm1 n1 s1 ls1 args1) 65536 by omega) (by omega);have hla':laP (.mk k1 a1 nm1 n1 s1 ls1 args1)≤1099511627776:=by omega
  have cS:=fun w hV hx=>Hz (Nf k1 a1 nm1 n1 s1 ls1 args1 A51 A61 c51 c61 w hV hx (by omega) hsw)
  generalize Dd (.mk k1 a1 nm1 n1 s1 ls1 args1) 65536=Z at *
  clear hla hsz cL cA;go_wp2_with fail;refine(cS _ (HE.out.fr F) HX.out).out.mono ?_;rintro e w4 ⟨he,f4⟩
  obtain⟨t,g,hr⟩:∃ t g,Ij (.mk k1 a1 nm1 n1 s1 ls1 args1)=(t,g):=⟨_,_,rfl⟩
  rw[hr] at he;subst he;replace HX:=Hz (HX.out.fr f4);replace q1:=f4.keep q1 nE;replace F:=F.trans f4;clear f4 l0 l1 l2 l3 l4 l5 l6 cS hlo;by_cases h0:g=0
  ·subst h0;obtain⟨ht,hm,hlen⟩:=showPR_ok hr;have HB:=Hz (fun y er q (h:PR (Ni (.mk k1 a1 nm1 n1 s1 ls1 args1)) y er q)=>case_pr hm h);unfold Ni at HB;rw[← ht] at HB hlen;have c3:=fun w hE=>Hz (J3 (⟨#[109,97,116,99,104,32,40,41,32,119,105,116,104,32]⟩++⟨t.toArray⟩++⟨#[32,45,62,32,40,41,32,101,110,100]⟩) (by simp[ByteArray.size_append,ByteArray.size];omega) w hE)
   rw[show((⟨#[109,97,116,99,104,32,40,41,32,119,105,116,104,32]⟩++⟨t.toArray⟩++⟨#[32,45,62,32,40,41,32,101,110,100]⟩:ByteArray)).data.toList=[109,97,116,99,104,32,40,41,32,119,105,116,104,32]++(t++[32,45,62,32,40,41,32,101,110,100]) by simp[ByteArray.data_append]] at c3;clear hr ht hm;go_wp2_with fail;refine(c3 _ (HE.out.fr F)).out.mono ?_;rintro e w5 ⟨k2,a2,nm2,n2,s2,ls2,args2,arms2,A52,c52,A62,c62,A72,c72,er2,at2,rfl,hx2,hpr2,f5⟩;have hla2:=hpr2.la;have fb:=(Fr.refl [] w5).alloc (.cells #[vI k2,vI a2,vS nm2,vI n2,vS s2,.slice A52 ls2.length c52,.slice A62 args2.length c62,.slice A72 arms2.length c72] 35);have q2:=Ad w5 (.cells #[vI k2,vI a2,vS nm2,vI n2,vS s2,.slice A52 ls2.length c52,.slice A62 args2.length c62,.slice A72 arms2.length c72] 35);replace HX:=Hz ((HX.out.fr f5).fr fb);replace q1:=fb.keep (f5.keep q1 (fun x=>by cases x)) nE;replace F:=(F.trans f5).trans fb
   rcases HB.out _ _ _ hpr2 with⟨he,hy⟩| ⟨rfl,ax,zx,qx,ux,hq,hy⟩
   ·clear hpr2 hx2 hy HB c3 f5;rcases he with rfl|rfl|rfl
    all_goals
     go_wp2_with fail;go_ret;exact⟨(by first|rfl|simp),F⟩
   ·cases hy;have hlt:0 < [(qx,ux)].length:=by simp
    cases hx2 with
    | mk d5 d6 dp de h5 e5 h6 e6 h7 e7 e8 =>
    obtain⟨gA,og,rfl,_,hg,_,_,hc⟩:=h7.row hlt;have hpp:=e7 0 qx ux rfl;have hyy:=e8 0 qx ux rfl
    try dsimp only at hc
    generalize dp 0=dpi at *
    generalize de 0=di at *
    have hpp2:=hpp.fr fb
    cases hyy with
    | @mk k4 a4 nm4 n4 s4 ls4 args4 arms4 v5 v6 v7 _ _ _ _ r5 _ r6 _ r7 _ _ =>
    obtain⟨A54,cc54,rfl⟩:=r5.form;obtain⟨A64,cc64,rfl⟩:=r6.form;obtain⟨A74,cc74,rfl⟩:=r7.form;clear r5 r6 r7
    cases hpp with
    | @mk k3 a3 nm3 n3 s3 ls3 args3 v5 v6 _ _ r5 _ r6 _ =>
    obtain⟨A53,cc53,rfl⟩:=r5.form;obtain⟨A63,cc63,rfl⟩:=r6.form;clear r5 r6;have hq2:eqP false (.mk k3 a3 nm3 n3 s3 ls3 args3) (.mk k1 a1 nm1 n1 s1 ls1 args1)=true:=(eqP_dec _ _).2 hq.symm;have hla3:laP (.mk k3 a3 nm3 n3 s3 ls3 args3)≤1099511627776:=by simp only[laE,D6,laA] at hla2;omega
    have cQ:=fun w h1 h2=>Hz (So _ k3 a3 nm3 n3 s3 ls3 args3 A53 A63 cc53 cc63 k1 a1 nm1 n1 s1 ls1 args1 A51 A61 c51 c61 false w (fun b=>b<w.heap.size) (fun b=>b<w.heap.size) (Nat.lt_succ_self _) hla3 hla' h1 h2)
    rw[hq2] at cQ;have HP:=Hz hpp2;obtain⟨x0,x1,x2,x3,x4,x5,x6,x7,x8,x9,x10,x11,x12,x13,x14⟩:=Fh hg fb hc;have HC:=Hz hc;clear hc;clear hpr2 HB c3 f5 hq hq2 hla2 hla3 h5 e5 h6 e6 h7 e7 e8 hpp2;go_wp2_with fail
    generalize w5.alloc (.cells #[vI 16,vI a2,.string ⟨[].toArray⟩,vI 0,.string ⟨[].toArray⟩,.slice A52 [].length c52,.slice A62 [zx].length c62,.slice (some ⟨gA,og,none⟩) [(Ak.mk k3 a3 nm3 n3 s3 ls3 args3,Ab.mk k4 a4 nm4 n4 s4 ls4 args4 arms4)].length c72] 35)=y2 at *
    generalize hT:w5.heap.size=T2 at *
    obtain⟨⟨l0,l1,l2,l3,l4,l5,l6⟩,_⟩:=Aq q1;obtain⟨⟨m0,m1,m2,m3,m4,m5,m6,m7⟩,_⟩:=Ac q2;have HD:=Hz (Fr.drew (Fr.refl [] y2));simp only[Lc',Ln',Nat.zero_add,Nat.zero_mul,Nat.add_zero] at m7 x0 x1 x2 x3 x4 x5 x6
    go_region_held3 (fun w'=>w'.cell? ⟨T2,7,none⟩=some (.slice (some ⟨gA,og,none⟩) 1 c72)∧w'.cell? ⟨gA,og,none⟩=some (vI k3)∧w'.cell? ⟨gA,og+1,none⟩=some (vI a3)∧w'.cell? ⟨gA,og+2,none⟩=some (vS nm3)∧w'.cell? ⟨gA,og+3,none⟩=some (vI n3)∧w'.cell? ⟨gA,og+4,none⟩=some (vS s3)∧w'.cell? ⟨gA,og+5,none⟩=some (.slice A53 ls3.length cc53)∧w'.cell? ⟨gA,og+6,none⟩=some (.slice A63 args3.length cc63)∧w'.cell? ⟨T1,0,none⟩=some (vI k1)∧w'.cell? ⟨T1,1,none⟩=some (vI a1)∧w'.cell? ⟨T1,2,none⟩=some (vS nm1)∧w'.cell? ⟨T1,3,none⟩=some (vI n1)∧w'.cell? ⟨T1,4,none⟩=some (vS s1)∧w'.cell? ⟨T1,5,none⟩=some (.slice A51 ls1.length c51)∧w'.cell? ⟨T1,6,none⟩=some (.slice A61 args1.length c61)) (first|go_keep|exact⟨m7,x0,x1,x2,x3,x4,x5,x6,l0,l1,l2,l3,l4,l5,l6⟩) (((with_reducible refine(cQ _ (HP.out.fr HD.out) (HX.out.fr HD.out)).out.mono ?_);rintro e w7 ⟨rfl,f7⟩;have g7:=HD.out.trans f7;have m7:=Ae (g7.keep q2 nE) 7;obtain⟨⟨l0,l1,l2,l3,l4,l5,l6⟩,_⟩:=Aq (g7.keep q1 nE);obtain⟨x0,x1,x2,x3,x4,x5,x6,x7,x8,x9,x10,x11,x12,x13,x14⟩:=Fh (by rw[hT];exact hg) (fb.trans g7) HC.out;simp only[Lc',Ln',Nat.zero_add,Nat.zero_mul,Nat.add_zero] at m7 x0 x1 x2 x3 x4 x5 x6))
    all_goals
     go_wp2_with fail;go_ret;exact⟨(by first|rfl|simp),F.trans (HD.out.trans f7)⟩
  ·have hb:(g != 0)=true:=bne_iff_ne.2 h0;have ht:=Xv hr h0;subst ht;clear h0 hr;go_wp2_with fail;go_ret;exact⟨(by first|rfl|simp),F⟩
end
end Go.Proofs.YtabhpdhajajoiaaGreatDoor
