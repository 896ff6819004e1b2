/- A part of the proof: Pq, Pr, Pw, Fs, Ft, Op, Hl, Fu, Hg, Hh, Hm, Ya, Yb. -/
import Derived.SizedLaws
import Derived.Carry
import Derived.Deep.Slices
import Derived.ChangeArms
import Derived.KernelRfl
import Derived.BigQuiet
import Derived.Deep.QuietTactic
import Derived.Deep.DrawnRows
import Derived.Deep.RegionHeld3
import Derived.Test.YtabhpdhajajoiaaGreatDoorEb25
namespace Go.Proofs.YtabhpdhajajoiaaGreatDoor
open Go.RowKit
open _root_.Go.Proofs.Tryz
set_option linter.all false
set_option maxHeartbeats 16000000
set_option maxRecDepth 100000
open List renaming length_cons→Lc',length_append→La',getElem?_eq_getElem→Lg',cons_append→Lp',length_nil→Ln'
open Nat renaming le_refl→Nr'
open Bool renaming and_eq_true→Ba'
def Kn(ts:List Tok)(st:St)(kn:Option (Tok×Bool)):Prop:=∀ p,kn=some p→ts[st.i]?=some p.1∧st.ok=p.2
theorem Kn.none_(ts:List Tok)(st:St):Kn ts st none:=fun p h=>by cases h
theorem Kn.see{ts:List Tok}{st:St}{t:Tok}(h:ts[st.i]?=some t):Kn ts st (some (t,st.ok)):=fun p hp=>by cases hp;exact⟨h,rfl⟩
theorem Kn.to{ts:List Tok}{st:St}{t:Tok}{kn:Option (Tok×Bool)}(hk:Kn ts st kn)(h:ts[st.i]?=some t):∀ p,kn=some p→p=(t,st.ok):=fun p hp=>by
 obtain⟨h1,h2⟩:=hk p hp;rw[h] at h1;cases h1;rw[h2]
theorem CR.see{k k':Tok→Bool→Cmd}(h:∀ t t' ok,CR (k t ok) (k' t' ok)):CR (.look k) (.look k'):=.look (fun _q _a _a' _tx _n _ok=>h _ _ _) (fun _a _a' _tx _n _n' _ok _=>h _ _ _)
theorem U0(l m:List Ak):Hd (l++m)=Hd l+Hd m:=by
 induction l with
 | nil=>simp[Hd]
 | cons x l ih=>simp[Hd,ih];omega
theorem Pk(l m:List Ab):D7 (l++m)=D7 l+D7 m:=by
 induction l with
 | nil=>simp[D7]
 | cons x l ih=>simp[D7,ih];omega
theorem Ux(l m:List (Ak×Ab)):D6 (l++m)=D6 l+D6 m:=by
 induction l with
 | nil=>simp[D6]
 | cons x l ih=>simp[D6,ih];omega
theorem Uz{l:List Ab}{i:Nat}{x:Ab}(h:l[i]?=some x):laE x≤D7 l:=by
 induction l generalizing i with
 | nil=>simp at h
 | cons y l ih =>
  cases i with
  | zero=>simp at h;subst h;simp[D7]
  | succ i=>simp at h;have:=ih h;simp[D7];omega
theorem Uy{l:List (Ak×Ab)}{i:Nat}{p:Ak}{x:Ab}(h:l[i]?=some (p,x)):laP p+laE x≤D6 l:=by
 induction l generalizing i with
 | nil=>simp at h
 | cons y l ih =>
  cases i with
  | zero=>simp at h;subst h;simp[D6,laA]
  | succ i=>simp at h;have:=ih h;simp[D6];omega
theorem Yo(l:List Ab):l.length≤D7 l:=by
 induction l with
 | nil=>simp
 | cons x l ih=>cases x;simp[D7,laE];omega
theorem Yn(l:List (Ak×Ab)):l.length≤D6 l:=by
 induction l with
 | nil=>simp
 | cons x l ih=>obtain⟨p,x⟩:=x;cases x;cases p;simp[D6,laA,laE,laP];omega
def Bk:NT→Nat
 | .armsL _ _ x acc=>laE x+D6 acc+2
 | .sumL a=>laE a+1
 | .prodL a=>laE a+1
 | .opL _ _ _ acc=>D7 acc+2
 | .appL a=>laE a+1
 | .postL a=>laE a+1
 | .braces _=>2
 | .recL _ ls args=>D7 args+ls.length+2
 | _=>0
def Fc:PNT→Nat
 | .marked (.mk _ _ _ _ _ ls args)=>Hd args+ls.length
 | .recL _ ls args=>Hd args+ls.length+2
 | _=>0
def lWt:Nat→Cmd→Prop
 | b,.retE x=>laE x+1≤b
 | b,.retP x=>laP x+1≤b
 | b,.look k=>∀ t,lWt b (k t true)
 | b,.ahead k=>∀ n,lWt b (k n)
 | b,.adv k=>lWt (b+2) k
 | _,.fail _=>True
 | b,.callE nt k=>∀ x m,laE x+1≤Bk nt+2 * m→lWt (b+2 * m) (k x)
 | b,.callP nt k=>∀ x m,laP x+1≤Fc nt+2 * m→lWt (b+2 * m) (k x)
theorem Cs{p:Prop} [Decidable p] {b:Nat}{c d:Cmd}(h1:p→lWt b c)(h2:¬ p→lWt b d):lWt b (if p then c else d):=by
 split
 ·exact h1 (by assumption)
 ·exact h2 (by assumption)
theorem U8{s:LB}{b:Nat}{k:Bool→Cmd}(h1:lWt (b+2) (k true))(h2:lWt b (k false)):lWt b (Cl s k):=fun _=>Cs (fun _=>h1) (fun _=>h2)
theorem Cz{s:LB}{b:Nat}{c d:Cmd}(h1:lWt (b+2) c)(h2:lWt b d):lWt b (Cl s fun b=>if b=true then c else d):=U8 h1 h2
theorem lwt_adv{b:Nat}{c:Cmd}(h:lWt (b+2) c):lWt b (.adv c):=h
theorem lwt_fail{b:Nat}{c:Cmd}:lWt b (.fail c):=trivial
theorem lwt_isI{l:List LB}{b:Nat}{c d:Cmd}(h1:lWt b c)(h2:lWt b d):lWt b (isC l fun b=>if b=true then c else d):=fun t=>by
 show lWt b (if _ then _ else _);exact Cs (fun _=>h1) (fun _=>h2)
theorem Cv{s:LB}{b:Nat}{c:Cmd}(h:lWt (b+2) c):lWt b (Bv s c):=fun _=>Cs (fun _=>h) (fun _=>trivial)
theorem Hv{b:Nat}{k:LB→Cmd}(h:∀ s,lWt (b+2) (k s)):lWt b (Fv k):=fun _=>Cs (fun _=>h _) (fun _=>trivial)
theorem A8{x:Ab}{b:Nat}(h:laE x+1≤b):lWt b (.retE x):=h
theorem Di{x:Ak}{b:Nat}(h:laP x+1≤b):lWt b (.retP x):=h
theorem lwtP(nt:PNT):lWt (Fc nt) (Cn nt):=by
 cases nt with
 | pat =>
  refine fun t=>Cs (fun _=>fun x m h=>Di ?_) (fun _=>fun x m h=>Di ?_)<;> simp only[Ln',Fc,laP,Hd] at * <;> omega
 | patom =>
  refine fun t=>Cs (fun h=>by cases h) (fun _=>Cs (fun _=>Di ?_) (fun _=>Cs (fun _=>Di ?_) (fun _=>Cs (fun _=>Di ?_) (fun _=>Cs (fun _=>Di ?_) (fun _=>fun x m h=>Di ?_)))))
  ·split <;> simp[laP,Hd,Fc]
  all_goals simp only[Ln',Fc,laP,Hd] at * <;> omega
 | marked x =>
  obtain⟨k,a,nm,n,s,ls,args⟩:=x;unfold Cn;refine Cz ?_ (Cz ?_ (Cz ?_ (Cz ?_ (Cz ?_ lwt_fail))))
  ·exact fun t=>Cs (fun _=>Cs (fun _=>Di (by simp only[Fc,laP];omega)) (fun _=>Di (by simp only[Fc,laP];omega))) (fun _=>trivial)
  ·exact Di (by simp only[Fc,laP];omega)
  ·exact Di (by simp only[Fc,laP];omega)
  ·exact Cz (Di (by simp only[Fc,laP];omega)) (fun x m h=>Cv (Di (by simp only[Fc] at *;omega)))
  ·refine Cz (Di (by simp only[Fc,laP];omega)) (fun t=>Cs (fun _=>fun x m h=>Di (by simp only[Fc] at *;omega)) (fun h=>absurd rfl h))
 | recL a ls args =>
  unfold Cn;refine Hv fun s=>Cv fun x m h=>Cz ?_ ?_
  ·exact fun y m2 h2=>Di (by simp only[Ln',La',Lc',Fc,U0,Hd] at *;omega)
  ·exact Cv (Di (by simp only[Ln',La',Lc',Fc,U0,Hd,laP] at *;omega))
theorem lwtE(nt:NT):lWt (Bk nt) (body nt):=by
 cases nt with
 | seq=>exact fun x m h t=>Cz (fun y m2 h2=>A8 (by simp only[Ln',Bk,D4,laE,D7,D6] at *;omega)) (A8 (by simp only[Bk] at *;omega))
 | item =>
  refine fun t=>Cz ?_ (lwt_isI (fun x m h=>A8 (by simp only[Bk] at *;omega)) (Cz (fun x m h=>A8 (by simp only[Bk] at *;omega)) (Cz (fun x m h=>A8 (by simp only[Bk] at *;omega)) (Cz ?_ (Cz ?_ ?_)))))
  ·refine U8 ?_ ?_
   ·exact Hv fun s=>Cv fun x m h=>Cv fun y m2 h2=>A8 (by simp only[Ln',if_true,Bk,laE,D7,D6] at *;omega)
   ·exact Hv fun s=>Cv fun x m h=>Cv fun y m2 h2=>A8 (by
     have h:laE x+1≤Bk .seq+2 * m:=h
     simp only[Ln',Bk,laE,D7,D6] at *;omega)
  ·exact fun x m h=>Cv fun y m2 h2=>Cv fun z m3 h3=>A8 (by simp only[Ln',Bk,D4,laE,D7,D6] at *;omega)
  ·exact fun x m h=>A8 (by simp only[Ln',Bk,D4,laE,D7,D6] at *;omega)
  ·exact fun x m h t=>Cz (fun y m2 h2=>A8 (by simp only[Ln',Bk,opE,laE,D7,D6] at *;omega)) (A8 (by simp only[Bk] at *;omega))
 | fn=>exact fun t=>Cv (Hv fun s=>Cv fun x m h=>A8 (by simp only[Ln',Bk,laE,D7,D6] at *;omega))
 | arms k a=>exact fun x m h=>Cv fun t=>Cs (fun _=>fun y m2 h2=>A8 (by simp only[Bk,D6] at *;omega)) (fun h=>absurd rfl h)
 | armsL k a x acc=>exact fun p m h=>Cv fun y m2 h2=>Cz (fun z m3 h3=>A8 (by simp only[Bk,Fc,Ux,D6,laA] at *;omega)) (Cv (A8 (by simp only[Ln',Bk,Fc,Ux,D6,laA,laE,D7] at *;omega)))
 | or=>exact fun x m h t=>Cz (fun y m2 h2=>A8 (by simp only[Ln',Bk,D4,laE,D7,D6] at *;omega)) (A8 (by simp only[Bk] at *;omega))
 | and=>exact fun x m h t=>Cz (fun y m2 h2=>A8 (by simp only[Ln',Bk,D4,laE,D7,D6] at *;omega)) (A8 (by simp only[Bk] at *;omega))
 | cmp=>exact fun x m h t=>Cs (fun _=>fun y m2 h2=>A8 (by simp only[Ln',Bk,opE,laE,D7,D6] at *;omega)) (fun _=>A8 (by simp only[Bk] at *;omega))
 | sum=>exact fun x m h y m2 h2=>A8 (by simp only[Bk] at *;omega)
 | sumL a=>exact fun t=>Cs (fun _=>fun x m h y m2 h2=>A8 (by simp only[Ln',Bk,opE,laE,D7,D6] at *;omega)) (fun _=>A8 (by simp only[Bk] at *;omega))
 | prod=>exact fun x m h y m2 h2=>A8 (by simp only[Bk] at *;omega)
 | prodL a=>exact fun t=>Cs (fun _=>fun x m h y m2 h2=>A8 (by simp only[Ln',Bk,opE,laE,D7,D6] at *;omega)) (fun _=>A8 (by simp only[Bk] at *;omega))
 | unary=>exact fun t=>Cz (fun x m h=>A8 (by simp only[Ln',Bk,opE,laE,D7,D6] at *;omega)) (Cz (fun x m h=>A8 (by simp only[Ln',Bk,opE,laE,D7,D6] at *;omega)) (fun x m h=>A8 (by simp only[Bk] at *;omega)))
 | app =>
  refine fun t=>Cs (fun _=>fun x m h=>A8 ?_) (fun _=>Cs (fun _=>fun x m h=>A8 ?_) (fun _=>fun x m h y m2 h2=>A8 ?_))<;> simp only[Ln',Bk,laE,D7,D6] at * <;> omega
 | opL n a m acc =>
  cases m with
  | zero=>exact A8 (by simp only[Ln',Bk,opE,laE,D6];omega)
  | succ m=>exact fun x m1 h y m2 h2=>A8 (by simp only[Bk,Pk,D7] at *;omega)
 | appL a=>exact fun t=>Cs (fun _=>fun x m h y m2 h2=>A8 (by simp only[Ln',Bk,D4,laE,D7,D6] at *;omega)) (fun _=>A8 (by simp only[Bk] at *;omega))
 | post=>exact fun t=>Cz (fun x m h=>A8 (by simp only[Ln',Bk,opE,laE,D7,D6] at *;omega)) (fun x m h y m2 h2=>A8 (by simp only[Bk] at *;omega))
 | postL a=>exact fun t=>Cs (fun _=>lwt_adv (Hv fun s=>fun y m2 h2=>A8 (by simp only[Ln',Bk,laE,D7,D6] at *;omega))) (fun _=>A8 (by simp only[Bk] at *;omega))
 | atom =>
  intro t;refine Cs (fun _=>?_) (fun _=>trivial);show lWt (0+2) _
  repeat refine Cs (fun _=>(by first|exact A8 (by simp only[Ln',laE,D7,D6];omega)| exact fun x m h=>A8 (by simp only[Bk] at *;omega))) (fun _=>?_)
  exact Cz (A8 (by simp only[Ln',laE,D7,D6];omega)) (fun x m h=>Cv (A8 (by simp only[Bk] at *;omega)))
 | braces a =>
  unfold body
  refine Cz (A8 (by simp only[Ln',Bk,laE,D7,D6];omega)) (fun n t=>Cs (fun _=>Cs (fun _=>fun x m h=>A8 (by simp only[Ln',Bk,D7] at *;omega)) (fun h=>absurd rfl h)) (fun _=>fun x m h=>Cv (Hv fun s=>Cv fun y m2 h2=>Cv (A8 (by simp only[Ln',Bk,laE,D7,D6] at *;omega)))))
 | recL a ls args =>
  unfold body;refine Hv fun s=>Cv fun x m h=>Cz ?_ ?_
  ·exact fun y m2 h2=>A8 (by simp only[Ln',La',Lc',Bk,Pk,D7] at *;omega)
  ·exact Cv (A8 (by simp only[Ln',La',Lc',Bk,Pk,D7,laE,D6] at *;omega))
def laR:Rs→Nat
 | .e x=>laE x
 | .p x=>laP x
theorem Run.laCost{ts:List Tok}{c:Cmd}{st:St}{r:Rs}{st':St}(h:Run ts c st r st'):∀ {b:Nat},lWt b c→st'.ok=true→laR r+1≤b+2 *(st'.i-st.i):=by
 induction h with
 | retE=>intro b hw _;simp only[lWt] at hw;simp only[laR];omega
 | retP=>intro b hw _;simp only[lWt] at hw;simp only[laR];omega
 | look h hk ih=>intro b hw hok;have:=hk.grows.2 hok;exact ih (by rw[this];exact hw _) hok
 | ahead h hk ih=>intro b hw hok;exact ih (hw _) hok
 | adv hk ih =>
  intro b hw hok;have h1:=ih (b:=b+2) hw hok;have h2:=hk.grows.1;simp only at h1 h2
  omega
 | fail hk ih=>intro b hw hok;have:=hk.grows.2 hok;cases this
 | @callE nt k st x st1 r st' h hk ih1 ih2 =>
  intro b hw hok;have h1:=ih1 (lwtE nt) (hk.grows.2 hok);have h2:=ih2 (b:=b+2 *(st1.i-st.i)) (hw x _ h1) hok;have h3:=h.grows.1;have h4:=hk.grows.1
  omega
 | @callP nt k st x st1 r st' h hk ih1 ih2 =>
  intro b hw hok;have h1:=ih1 (lwtP nt) (hk.grows.2 hok);have h2:=ih2 (b:=b+2 *(st1.i-st.i)) (hw x _ h1) hok;have h3:=h.grows.1;have h4:=hk.grows.1;omega
theorem Ma:∀ (l l':List Ak)(d:Nat),l.length=l'.length→(∀ (i:Nat)(x y:Ak),l[i]?=some x→l'[i]?=some y→∀ d,(Bz x d).map Prod.snd=(Bz y d).map Prod.snd)→(C6 l d).map Prod.snd=(C6 l' d).map Prod.snd
 | [],[],d,_,_=>rfl
 | [],_::_,d,h,_=>by simp at h
 | _::_,[],d,h,_=>by simp at h
 | x::l,y::l',d,hl,h=>by
  rw[C6,C6,List.map_append,List.map_append,h 0 x y rfl rfl d,Ma l l' d (by simpa using hl) (fun i x y hx hy=>h (i+1) x y (by simpa using hx) (by simpa using hy))]
theorem L9:∀ (l l':List Ab)(d:Nat),l.length=l'.length→(∀ (i:Nat)(x y:Ab),l[i]?=some x→l'[i]?=some y→∀ d,(Bw x d).map Prod.snd=(Bw y d).map Prod.snd)→(C5 l d).map Prod.snd=(C5 l' d).map Prod.snd
 | [],[],d,_,_=>rfl
 | [],_::_,d,h,_=>by simp at h
 | _::_,[],d,h,_=>by simp at h
 | x::l,y::l',d,hl,h=>by
  rw[C5,C5,List.map_append,List.map_append,h 0 x y rfl rfl d,L9 l l' d (by simpa using hl) (fun i x y hx hy=>h (i+1) x y (by simpa using hx) (by simpa using hy))]
theorem L8:∀ (l l':List (Ak×Ab))(d:Nat),l.length=l'.length→(∀ (i:Nat)(p p':Ak)(x y:Ab),l[i]?=some (p,x)→l'[i]?=some (p',y)→∀ d,(Bz p d).map Prod.snd=(Bz p' d).map Prod.snd)→
  (∀ (i:Nat) (p p':Ak) (x y:Ab),l[i]?=some (p,x)→l'[i]?=some (p',y)→∀ d,(Bw x d).map Prod.snd=(Bw y d).map Prod.snd)→(B9 l d).map Prod.snd=(B9 l' d).map Prod.snd
 | [],[],d,_,_,_=>rfl
 | [],_::_,d,h,_,_=>by simp at h
 | _::_,[],d,h,_,_=>by simp at h
 | (p,x)::l,(p',y)::l',d,hl,hp,h=>by
  rw[B9,B9,List.map_append,List.map_append,L8 l l' d (by simpa using hl) (fun i p p' x y hx hy=>hp (i+1) p p' x y (by simpa using hx) (by simpa using hy)) (fun i p p' x y hx hy=>h (i+1) p p' x y (by simpa using hx) (by simpa using hy)),
   Mz,Mz,List.map_append,List.map_append,hp 0 p p' x y rfl rfl d,h 0 p p' x y rfl rfl d]
theorem D8.parts{x y:Ak}(h:D8 x y):∀ d,(Bz x d).map Prod.snd=(Bz y d).map Prod.snd:=by
 induction h with
 | mk hl h ih=>intro d;rw[Kf,Kf,List.map_cons,List.map_cons,Ma _ _ (d+1) hl ih]
theorem Bl.parts{x y:Ab}(h:Bl x y):∀ d,(Bw x d).map Prod.snd=(Bw y d).map Prod.snd:=by
 induction h with
 | mk hl h hl2 hp hx ih ih2 =>
  intro d;rw[Ke,Ke,List.map_cons,List.map_cons,List.map_append,List.map_append,L9 _ _ (d+1) hl ih,L8 _ _ (d+1) hl2 (fun i p p' x y h1 h2=>(hp i p p' x y h1 h2).parts) ih2]
theorem Bl.sz{x y:Ab}(h:Bl x y):szE y=szE x:=by
 have:=congrArg List.length (h.parts 1);rw[List.length_map,List.length_map,Hx,Hx] at this;exact this.symm
theorem Bl.deep{x y:Ab}(h:Bl x y)(m:Int):Dz m x=none↔Dz m y=none:=by
 have key:∀ x,Dz m x=none↔∀ d ∈ (Bw x 1).map Prod.snd,¬ m<(d:Int):=fun x=>by
  unfold Dz;rw[List.find?_eq_none];simp;exact⟨fun h d a=>h a d,fun h a d=>h d a⟩
 rw[key,key,h.parts 1]
theorem PR.la{s:LB}{x:Ab}{er p:Int}(h:PR s x er p):laE x≤1099511627776:=by
 have hz:laE .zero≤1099511627776:=by decide
 cases h with
 | lexErr=>exact hz
 | syn=>exact hz
 | many=>exact hz
 | deep=>exact hz
 | @ok ts _ st' t hl hr ht hok hend hm hd =>
  have h1:laE x+1≤0+2 *(st'.i-0):=hr.laCost (b:=0) (lwtE .seq) hok;have h2:=(List.getElem?_eq_some_iff.1 ht).1;have h3:=(Ji hl).1;omega
theorem PR.sz{s:LB}{x:Ab}{er p:Int}(h:PR s x er p):szE x≤4096:=by
 have hz:szE .zero≤4096:=by decide
 cases h with
 | lexErr=>exact hz
 | syn=>exact hz
 | many=>exact hz
 | deep=>exact hz
 | ok hl hr ht hok hend hm hd=>exact hm
section
open Go.RowKit Go.Deep
def Nm(n:Int):Prop:=(Lit.int .i64 n).wf=true
inductive WtP:Ak→Prop
 | mk {k a nm n s ls args} (hk:Nm k∧Nm a∧Nm n) (h1:nm.length≤reachBytes) (h2:s.length≤reachBytes) (h3:ls.length * 16≤reachBytes) (h4:∀ (i:Nat) (x:LB),ls[i]?=some x→x.length≤reachBytes) (h5:args.length * 104≤reachBytes) (h6:∀ (i:Nat) (x:Ak),args[i]?=some x→WtP x):WtP (.mk k a nm n s ls args)
inductive WtE:Ab→Prop
 | mk {k a nm n s ls args arms} (hk:Nm k∧Nm a∧Nm n) (h1:nm.length≤reachBytes) (h2:s.length≤reachBytes) (h3:ls.length * 16≤reachBytes) (h4:∀ (i:Nat) (x:LB),ls[i]?=some x→x.length≤reachBytes) (h5:args.length * 128≤reachBytes) (h6:∀ (i:Nat) (x:Ab),args[i]?=some x→WtE x) (h7:arms.length * 232≤reachBytes) (h8:∀ (i:Nat) (p:Ak) (x:Ab),arms[i]?=some (p,x)→WtP p) (h9:∀ (i:Nat) (p:Ak) (x:Ab),arms[i]?=some (p,x)→WtE x):WtE (.mk k a nm n s ls args arms)
instance:Inhabited Ak:=⟨.zero⟩
instance:Inhabited Ab:=⟨.zero⟩
theorem len2{α:Type}:∀ {l:List α},l.length=2→∃ a b,l=[a,b]
 | [a,b],_=>⟨a,b,rfl⟩
theorem len7{α:Type}:∀ {l:List α},l.length=7→∃ a b c d e f g,l=[a,b,c,d,e,f,g]
 | [a,b,c,d,e,f,g],_=>⟨a,b,c,d,e,f,g,rfl⟩
theorem len8{α:Type}:∀ {l:List α},l.length=8→∃ a b c d e f g h,l=[a,b,c,d,e,f,g,h]
 | [a,b,c,d,e,f,g,h],_=>⟨a,b,c,d,e,f,g,h,rfl⟩
theorem Ts(b o k:Nat):(⟨b,o,none⟩:Addr).add k=⟨b,o+k,none⟩:=by
 unfold Addr.add;by_cases h:k=0
 ·subst h;simp
 ·simp[h]
theorem J0{H:Type}{P:Program}{e:TypeId}:∀ {l:List (DataW H)},(DataW.weightsAll P e l).all (·≤reachBytes)=true→∀ (i:Nat)(d:DataW H),l[i]?=some d→(d.weights P e).all (·≤reachBytes)=true
 | [],_,i,d,h=>by simp at h
 | x::l,hw,i,d,h=>by
  simp only[DataW.weightsAll,List.all_append,Ba'] at hw
  cases i with
  | zero=>simp at h;subst h;exact hw.1
  | succ i=>exact J0 hw.2 i d (by simpa using h)
section
variable {H:Type} {enc:TypeId×Value→H} {w:World}
theorem Oo{α:Type} [Inhabited α] {P:Program}{t e:TypeId}(ht:P.underlying t=some (.slice e))(size bytes:Nat)(hs:P.cellsOf e=size)(hs0:0<size)(hby:P.bytesOf e=bytes)(E:α→List Value→Prop)(Wt:α→Prop){fuel:Nat}{cs:List Value}{x:DataW H×List MemPlace}
  (h:DataW.trod enc P w 0 (fun _=>true) true fuel t cs=some x)
  (hel:∀ n,n<fuel→∀ cs' y,DataW.trod enc P w 0 (fun _=>true) true n e cs'=some y→∃ z:α,E z cs'∧((y.1.weights P e).all (·≤reachBytes)=true→Wt z)):
  ∃ (v:Value) (xs:List α) (c:Nat→List Value),cs=[v]∧Dy w (fun b=>b<w.heap.size) v xs.length size c∧(∀ (i:Nat) (z:α),xs[i]?=some z→E z (c i))∧
   ((x.1.weights P t).all (·≤reachBytes)=true→xs.length * bytes≤reachBytes∧∀ (i:Nat) (z:α),xs[i]?=some z→Wt z):=by
 rcases DataW.trod_slice ht h with⟨rfl,rfl⟩| ⟨a,len,cap,elems,rest,n,rfl,rfl,rfl,_,hlc,_,hlen,hi,_,_⟩
 ·exact⟨_,[],fun _=>[],rfl,Dy.nil_ _ _ _ _,fun i z hz=>by simp at hz,fun _=>⟨by simp,fun i z hz=>by simp at hz⟩⟩
 ·have each:∀ i,i<len→∃ q:List Value×α,w.cells? 0 (a.add (i * size)) size=some q.1∧E q.2 q.1∧(∀ d,elems[i]?=some d→(d.1.weights P e).all (·≤reachBytes)=true→Wt q.2):=fun i hlt=>by
   have:=hi i hlt;rw[hs] at this
   obtain⟨d,hd⟩:∃ d,elems[i]?=some d:=⟨elems[i],Lg' (by omega)⟩
   rw[hd] at this;obtain⟨cs',h1,h2⟩:=Option.bind_eq_some_iff.1 this;obtain⟨z,hz1,hz2⟩:=hel n (Nat.lt_succ_self n) cs' d h2;exact⟨(cs',z),h1,hz1,fun d' hd' hw=>by rw[hd] at hd';cases hd';exact hz2 hw⟩
  obtain⟨q,hq⟩:=choose_lt each;refine⟨_,(List.range len).map (fun i=>(q i).2),fun i=>(q i).1,rfl,?_,fun i z hz=>?_,fun hw=>?_⟩
  ·rw[List.length_map,List.length_range];by_cases h0:len=0
   ·subst h0;exact .inl ⟨_,_,rfl,rfl⟩
   ·obtain⟨b,o,sp⟩:=a
    have hc0:=(World.cells?_some (hq 0 (by omega)).1)
    obtain⟨v,hv⟩:∃ v,(q 0).1[0]?=some v:=⟨(q 0).1[0]'(by rw[hc0.2.1];exact hs0),Lg' _⟩
    have hcc:=hc0.2.2 0 hs0;rw[hv] at hcc;have e0:((⟨b,o,sp⟩:Addr).add (0 * size)).add 0=⟨b,o,sp⟩:=by simp[Addr.add]
    rw[e0] at hcc;have hsp:sp=none:=World.cell?_spot hcc;subst hsp
    have hb:b<w.heap.size:=by
     unfold World.cell? at hcc;rcases Nat.lt_or_ge b w.heap.size with h1|h1
     ·exact h1
     ·rw[Array.getElem?_eq_none h1] at hcc;cases hcc
    refine .inr ⟨b,o,cap,rfl,hb,hb,hlc,fun i hlt=>?_⟩;obtain⟨_,h1,h2⟩:=World.cells?_some (hq i hlt).1;refine⟨h1,fun j u hu=>?_⟩;have hj:j<size:=by rw[← h1];exact(List.getElem?_eq_some_iff.1 hu).1
    have:=h2 j hj;rw[Ts,Ts] at this;exact this.trans hu
  ·obtain⟨hlt,e⟩:=List.getElem?_eq_some_iff.1 hz;simp at hlt e;subst e;exact(hq i hlt).2.1
  ·rw[DataW.weights,ht] at hw;simp only[List.all_cons,List.all_append,Ba',decide_eq_true_eq,List.length_map,hby] at hw;refine⟨?_,fun i z hz=>?_⟩
   ·rw[List.length_map,List.length_range,← hlen];exact Nat.le_trans (Nat.mul_le_mul_right _ (Nat.le_add_right _ _)) hw.1
   ·obtain⟨hlt,e⟩:=List.getElem?_eq_some_iff.1 hz;simp at hlt e;subst e;have hd:elems[i]?=some elems[i]:=Lg' (by omega);exact(hq i hlt).2.2 _ hd (J0 hw.2.1 i _ (by rw[List.getElem?_map,hd];rfl))
theorem Pa:prog.cellsOf 25=7:=by kernel_rfl
theorem Mm:prog.cellsOf 35=8:=by kernel_rfl
theorem Ue:prog.cellsOf 46=15:=by kernel_rfl
theorem Mn:prog.cellsOf 9=1:=by kernel_rfl
theorem bytesPat:prog.bytesOf 25=104:=by kernel_rfl
theorem Zn:prog.bytesOf 35=128:=by kernel_rfl
theorem bytesArm:prog.bytesOf 46=232:=by kernel_rfl
theorem Zo:prog.bytesOf 9=16:=by kernel_rfl
theorem Rd:prog.cellsOf 3=1:=by kernel_rfl
theorem Rc:prog.cellsOf 2=1:=by kernel_rfl
theorem Pb:prog.cellsOf 22=1:=by kernel_rfl
theorem Wp:prog.cellsOf 23=1:=by kernel_rfl
theorem Uf:prog.cellsOf 32=1:=by kernel_rfl
theorem Wn:prog.cellsOf 33=1:=by kernel_rfl
theorem L7{fuel:Nat}{cs:List Value}{x:DataW H×List MemPlace}(h:DataW.trod enc prog w 0 (fun _=>true) true fuel 22 cs=some x):
  ∃ (v:Value) (ls:List LB) (c:Nat→List Value),cs=[v]∧Dy w (fun b=>b<w.heap.size) v ls.length 1 c∧(∀ (i:Nat) (z:LB),ls[i]?=some z→c i=Of z)∧
   ((x.1.weights prog 22).all (·≤reachBytes)=true→ls.length * 16≤reachBytes∧∀ (i:Nat) (z:LB),ls[i]?=some z→z.length≤reachBytes):=by
 refine Oo (P:=prog) underlying22 1 16 Mn (by decide) Zo (fun z cs=>cs=Of z) (fun z=>z.length≤reachBytes) h (fun n _ cs' y hy=>?_);obtain⟨s,rfl,rfl,_⟩:=DataW.trod_string underlying9 hy;exact⟨s.data.toList,by simp[Of],fun hw=>by simpa [DataW.weights] using hw⟩
theorem Pz:∀ (N fuel:Nat),fuel<N→∀ (cs:List Value)(x:DataW H×List MemPlace),DataW.trod enc prog w 0 (fun _=>true) true fuel 25 cs=some x →
  ∃ t:Ak,Bd w (fun b=>b<w.heap.size) t cs∧((x.1.weights prog 25).all (·≤reachBytes)=true→WtP t)
 | 0,_,h,_,_,_=>absurd h (Nat.not_lt_zero _)
 | N+1,fuel,hN,cs,x,h=>by
  obtain⟨xs,n,rfl,rfl,hcl,hxl,hf⟩:=DataW.trod_struct underlying25 h;rw[Pa] at hcl;have hxl:xs.length=7:=hxl;obtain⟨x0,x1,x2,x3,x4,x5,x6,rfl⟩:=len7 hxl;obtain⟨v0,v1,v2,v3,v4,v5,v6,rfl⟩:=len7 hcl;have h0:=hf 0 _ rfl;have h1:=hf 1 _ rfl;have h2:=hf 2 _ rfl;have h3:=hf 3 _ rfl;have h4:=hf 4 _ rfl;have h5:=hf 5 _ rfl;have h6:=hf 6 _ rfl;simp only[List.getElem_toArray,List.getElem_cons_zero,List.getElem_cons_succ,Rd,Rc,Mn,Pb,Wp,List.drop_zero,List.drop_succ_cons,List.take_succ_cons,List.take_zero,List.getElem?_cons_zero,List.getElem?_cons_succ] at h0 h1 h2 h3 h4 h5 h6;obtain⟨k,e0,rfl,w0⟩:=DataW.trod_int underlying3 h0;obtain⟨a,e1,rfl,w1⟩:=DataW.trod_int underlying3 h1;obtain⟨nm,e2,rfl,w2⟩:=DataW.trod_string underlying9 h2;obtain⟨m,e3,rfl,w3⟩:=DataW.trod_int underlying2 h3;obtain⟨s,e4,rfl,w4⟩:=DataW.trod_string underlying9 h4;obtain⟨u5,ls,c5,e5,s5,l5,b5⟩:=L7 h5;obtain⟨u6,args,c6,e6,s6,l6,b6⟩:=Oo (P:=prog) (α:=Ak) (hel:=fun q hq cs' y hy=>Pz N q (by omega) cs' y hy) underlying23 7 104 Pa (by decide) bytesPat (E:=fun z cs=>Bd w (fun b=>b<w.heap.size) z cs) (Wt:=WtP) h6;cases e0;cases e1;cases e2;cases e3;cases e4;cases e5;cases e6;refine⟨.mk k a nm.data.toList m s.data.toList ls args,?_,fun hw=>?_⟩
  ·have:=Bd.mk (w:=w) (ok:=fun b=>b<w.heap.size) (k:=k) (a:=a) (nm:=nm.data.toList) (n:=m) (s:=s.data.toList) c5 c6 s5 l5 s6 l6;simpa using this
  ·rw[DataW.weights,underlying25] at hw;simp[DataW.weightsEach,DataW.weights] at hw;obtain⟨hw2,hw4,hw5,hw6⟩:=hw;obtain⟨p1,p2⟩:=b5 (by simpa using hw5);obtain⟨p3,p4⟩:=b6 (by simpa using hw6);exact .mk ⟨w0,w1,w3⟩ (by simpa using hw2) (by simpa using hw4) p1 p2 p3 p4
theorem My:∀ (N fuel:Nat),fuel<N→∀ (cs:List Value)(x:DataW H×List MemPlace),DataW.trod enc prog w 0 (fun _=>true) true fuel 35 cs=some x →
  ∃ t:Ab,Aj w (fun b=>b<w.heap.size) t cs∧((x.1.weights prog 35).all (·≤reachBytes)=true→WtE t)
 | 0,_,h,_,_,_=>absurd h (Nat.not_lt_zero _)
 | N+1,fuel,hN,cs,x,h=>by
  obtain⟨xs,n,rfl,rfl,hcl,hxl,hf⟩:=DataW.trod_struct underlying35 h;rw[Mm] at hcl;have hxl:xs.length=8:=hxl;obtain⟨x0,x1,x2,x3,x4,x5,x6,x7,rfl⟩:=len8 hxl;obtain⟨v0,v1,v2,v3,v4,v5,v6,v7,rfl⟩:=len8 hcl;have h0:=hf 0 _ rfl;have h1:=hf 1 _ rfl;have h2:=hf 2 _ rfl;have h3:=hf 3 _ rfl;have h4:=hf 4 _ rfl;have h5:=hf 5 _ rfl;have h6:=hf 6 _ rfl;have h7:=hf 7 _ rfl;simp only[List.getElem_toArray,List.getElem_cons_zero,List.getElem_cons_succ,Rd,Rc,Mn,Pb,Uf,Wn,List.drop_zero,List.drop_succ_cons,List.take_succ_cons,List.take_zero,List.getElem?_cons_zero,List.getElem?_cons_succ] at h0 h1 h2 h3 h4 h5 h6 h7;obtain⟨k,e0,rfl,w0⟩:=DataW.trod_int underlying3 h0;obtain⟨a,e1,rfl,w1⟩:=DataW.trod_int underlying3 h1;obtain⟨nm,e2,rfl,w2⟩:=DataW.trod_string underlying9 h2;obtain⟨m,e3,rfl,w3⟩:=DataW.trod_int underlying2 h3;obtain⟨s,e4,rfl,w4⟩:=DataW.trod_string underlying9 h4;obtain⟨u5,ls,c5,e5,s5,l5,b5⟩:=L7 h5;obtain⟨u6,args,c6,e6,s6,l6,b6⟩:=Oo (P:=prog) (α:=Ab) (hel:=fun q hq cs' y hy=>My N q (by omega) cs' y hy) underlying32 8 128 Mm (by decide) Zn (E:=fun z cs=>Aj w (fun b=>b<w.heap.size) z cs) (Wt:=WtE) h6
  obtain⟨u7,arms,c7,e7,s7,l7,b7⟩:=Oo (P:=prog) (α:=Ak×Ab) underlying33 15 232 Ue (by decide) bytesArm (E:=fun z cs=>Bd w (fun b=>b<w.heap.size) z.1 (cs.take 7)∧Aj w (fun b=>b<w.heap.size) z.2 (cs.drop 7)) (Wt:=fun z=>WtP z.1∧WtE z.2) h7 (fun q hq cs' y hy=>by
   obtain⟨ys,m',rfl,rfl,hcl',hyl,hg⟩:=DataW.trod_struct underlying46 hy
   rw[Ue] at hcl'
   have hyl:ys.length=2:=hyl
   obtain⟨y0,y1,rfl⟩:=len2 hyl
   have g0:=hg 0 _ rfl
   have g1:=hg 1 _ rfl
   simp only[List.getElem_toArray,List.getElem_cons_zero,List.getElem_cons_succ,Pa,Mm,List.drop_zero,List.getElem?_cons_zero,List.getElem?_cons_succ] at g0 g1
   have e15:(cs'.drop 7).take 8=cs'.drop 7:=List.take_of_length_le (by rw[List.length_drop];omega)
   rw[e15] at g1
   obtain⟨p,hp,wp⟩:=Pz (m'+1) m' (Nat.lt_succ_self _) _ _ g0
   obtain⟨x,hx,wx⟩:=My N m' (by omega) _ _ g1
   refine⟨(p,x),⟨hp,hx⟩,fun hw=>?_⟩
   rw[DataW.weights,underlying46] at hw
   simp[DataW.weightsEach] at hw
   exact⟨wp (by simpa using hw.1),wx (by simpa using hw.2)⟩)
  cases e0;cases e1;cases e2;cases e3;cases e4;cases e5;cases e6;cases e7;refine⟨.mk k a nm.data.toList m s.data.toList ls args arms,?_,fun hw=>?_⟩
  ·have s7':Dy w (fun b=>b<w.heap.size) v7 arms.length 15 (fun i=>(c7 i).take 7++(c7 i).drop 7):=by
    have:(fun i=>(c7 i).take 7++(c7 i).drop 7)=c7:=funext fun i=>List.take_append_drop 7 (c7 i)
    rw[this];exact s7
   have:=Aj.mk (w:=w) (ok:=fun b=>b<w.heap.size) (k:=k) (a:=a) (nm:=nm.data.toList) (n:=m) (s:=s.data.toList) c5 c6 (fun i=>(c7 i).take 7) (fun i=>(c7 i).drop 7) s5 l5 s6 l6 s7' (fun i p x hi=>(l7 i _ hi).1) (fun i p x hi=>(l7 i _ hi).2);simpa using this
  ·rw[DataW.weights,underlying35] at hw;simp[DataW.weightsEach,DataW.weights] at hw;obtain⟨hw2,hw4,hw5,hw6,hw7⟩:=hw;obtain⟨p1,p2⟩:=b5 (by simpa using hw5);obtain⟨p3,p4⟩:=b6 (by simpa using hw6);obtain⟨p5,p6⟩:=b7 (by simpa using hw7);exact .mk ⟨w0,w1,w3⟩ (by simpa using hw2) (by simpa using hw4) p1 p2 p3 p4 p5 (fun i p x hi=>(p6 i _ hi).1) (fun i p x hi=>(p6 i _ hi).2)
end
theorem Se{P:Program}{w:World}{r:Reach}{base:Nat}{t:TypeId}{v:Value}{fs:Array Field}(ht:P.underlying t=some (.struct fs))(h:Value.okWide P w r base t v):∃ cs,v = .agg cs:=by
 unfold Value.okWide at h;rw[ht] at h;obtain⟨cs,rfl,_⟩:=h;exact⟨cs,rfl⟩
theorem Tl{H:Type}{P:Program}{ts:List TypeId}{ds:List (DataW H)}(h:(DataW.weightsEach P ts ds).all (·≤reachBytes)=true){j:Nat}{t:TypeId}{d:DataW H}(ht:ts[j]?=some t)(hd:ds[j]?=some d):(d.weights P t).all (·≤reachBytes)=true :=
 List.all_eq_true.2 fun n hn=>List.all_eq_true.1 h n (DataW.weights_mem_each ht hd n hn)
theorem Ly:laidOutB prog=true:=by kernel_rfl
section
variable {H:Type} {enc:TypeId×Value→H} {w:World}
theorem Ii{cs:Array Value}{d:DataW H}{p:List MemPlace}(h:DataW.Trod enc prog w 0 (fun _=>true) true 35 (.agg cs) d p)(hw:(d.weights prog 35).all (·≤reachBytes)=true):
  ∃ (k a:Int) (nm:LB) (n:Int) (s:LB) (ls:List LB) (args:List Ab) (arms:List (Ak×Ab)) (A5:Option Addr) (n5 c5:Nat) (A6:Option Addr) (n6 c6:Nat) (A7:Option Addr) (n7 c7:Nat),
   cs = #[vI k,vI a,vS nm,vI n,vS s,.slice A5 n5 c5,.slice A6 n6 c6,.slice A7 n7 c7]∧Aj w (fun b=>b<w.heap.size) (.mk k a nm n s ls args arms) [vI k,vI a,vS nm,vI n,vS s,.slice A5 n5 c5,.slice A6 n6 c6,.slice A7 n7 c7]∧WtE (.mk k a nm n s ls args arms):=by
 obtain⟨fuel,hf⟩:=h;obtain⟨t,hx,hwt⟩:=My (fuel+1) fuel (Nat.lt_succ_self _) _ _ hf;have hwt:=hwt hw;have hcs:(Value.agg cs).cells.toList=cs.toList:=rfl;rw[hcs] at hx;generalize hl:cs.toList=l at hx;have hx0:=hx
 cases hx with
 | mk c5 c6 cp ce h5 e5 h6 e6 h7 e7 e8 =>
  obtain⟨_,_,rfl⟩:=h5.form;obtain⟨_,_,rfl⟩:=h6.form;obtain⟨_,_,rfl⟩:=h7.form;refine⟨_,_,_,_,_,_,_,_,_,_,_,_,_,_,_,_,_,?_,hx0,hwt⟩;rw[← Array.toArray_toList (xs:=cs),hl]
end
end
theorem inN_of{n:Int}(h:Nm n):inN n:=by
 unfold Nm at h;simp only[Lit.wf,IntKind.min,IntKind.max,IntKind.signed,IntKind.bits,Ba',decide_eq_true_eq,if_true] at h;unfold inN;omega
def Cj:List LB→Int→Int
 | [],n=>n
 | x::l,n=>if 0<n then Cj l (n-(x.length+1))else n
mutual
def Dd:Ak→Int→Int
 | .mk _ _ nm _ s ls args,n=>Dh args (Cj ls (n-(nm.length+s.length+1)))
def Dh:List Ak→Int→Int
 | [],n=>n
 | x::l,n=>if 0<n then Dh l (Dd x n)else n
end
mutual
def Dq:Ab→Int→Int
 | .mk _ _ nm _ s ls args arms,n=>Dt arms (Dg args (Cj ls (n-(nm.length+s.length+1))))
def Dg:List Ab→Int→Int
 | [],n=>n
 | x::l,n=>if 0<n then Dg l (Dq x n)else n
def Dt:List (Ak×Ab)→Int→Int
 | [],n=>n
 | x::l,n=>if 0<n then Dt l (Pr x n)else n
def Pr:Ak×Ab→Int→Int
 | (p,x),n=>Dq x (Dd p n)
end
theorem Rl{ls:List LB}{i:Nat}{x:LB}(h:ls[i]?=some x)(n:Int)(hn:0<n):Cj (ls.drop i) n=Cj (ls.drop (i+1)) (n-(x.length+1)):=by
 obtain⟨hi,e⟩:=List.getElem?_eq_some_iff.1 h;rw[List.drop_eq_getElem_cons hi,e,Cj,if_pos hn]
theorem longPs_at{l:List Ak}{i:Nat}{x:Ak}(h:l[i]?=some x)(n:Int)(hn:0<n):Dh (l.drop i) n=Dh (l.drop (i+1)) (Dd x n):=by
 obtain⟨hi,e⟩:=List.getElem?_eq_some_iff.1 h;rw[List.drop_eq_getElem_cons hi,e,Dh,if_pos hn]
theorem longEs_at{l:List Ab}{i:Nat}{x:Ab}(h:l[i]?=some x)(n:Int)(hn:0<n):Dg (l.drop i) n=Dg (l.drop (i+1)) (Dq x n):=by
 obtain⟨hi,e⟩:=List.getElem?_eq_some_iff.1 h;rw[List.drop_eq_getElem_cons hi,e,Dg,if_pos hn]
theorem longAs_at{l:List (Ak×Ab)}{i:Nat}{p:Ak}{x:Ab}(h:l[i]?=some (p,x))(n:Int)(hn:0<n):Dt (l.drop i) n=Dt (l.drop (i+1)) (Dq x (Dd p n)):=by
 obtain⟨hi,e⟩:=List.getElem?_eq_some_iff.1 h;rw[List.drop_eq_getElem_cons hi,e,Dt,if_pos hn,Pr]
theorem Lg:∀ (l:List LB)(n:Int),n≤0→Cj l n=n
 | [],_,_=>rfl
 | _::_,_,h=>by rw[Cj,if_neg (by omega)]
theorem Pv:∀ (l:List Ak)(n:Int),n≤0→Dh l n=n
 | [],_,_=>by rw[Dh]
 | _::_,_,h=>by rw[Dh,if_neg (by omega)]
theorem Xb:∀ (l:List Ab)(n:Int),n≤0→Dg l n=n
 | [],_,_=>by rw[Dg]
 | _::_,_,h=>by rw[Dg,if_neg (by omega)]
theorem W9:∀ (l:List (Ak×Ab))(n:Int),n≤0→Dt l n=n
 | [],_,_=>by rw[Dt]
 | _::_,_,h=>by rw[Dt,if_neg (by omega)]
def LW:Int:=1125899906842624
theorem Gk:∀ (l:List LB)(n:Int),Cj l n≤n
 | [],_=>by simp[Cj]
 | x::l,n=>by
  rw[Cj];split
  ·have:=Gk l (n-(x.length+1));omega
  ·omega
theorem Rm:∀ (l:List LB)(n:Int),(∀ (i:Nat)(x:LB),l[i]?=some x→x.length≤reachBytes)→0<n∨-LW≤n→-LW≤Cj l n
 | [],n,_,h=>by simp only[Cj];unfold LW at *;omega
 | x::l,n,hl,h=>by
  rw[Cj];split
  ·have h0:=hl 0 x rfl;refine Rm l _ (fun i y hy=>hl (i+1) y hy) ?_;unfold LW reachBytes at *;omega
  ·unfold LW at *;omega
mutual
theorem Is:∀ (x:Ak)(n:Int),Dd x n≤n
 | .mk k a nm m s ls args,n=>by
  rw[Dd];have h1:=Hk args (Cj ls (n-(nm.length+s.length+1)));have h2:=Gk ls (n-(nm.length+s.length+1));omega
theorem Hk:∀ (l:List Ak)(n:Int),Dh l n≤n
 | [],n=>by simp[Dh]
 | x::l,n=>by
  rw[Dh];have h1:=Hk l (Dd x n);have h2:=Is x n;split <;> omega
end
mutual
theorem Hu:∀ (x:Ab)(n:Int),Dq x n≤n
 | .mk k a nm m s ls args arms,n=>by
  rw[Dq];have h0:=Hi arms (Dg args (Cj ls (n-(nm.length+s.length+1))));have h1:=Hj args (Cj ls (n-(nm.length+s.length+1)));have h2:=Gk ls (n-(nm.length+s.length+1));omega
theorem Hj:∀ (l:List Ab)(n:Int),Dg l n≤n
 | [],n=>by simp[Dg]
 | x::l,n=>by
  rw[Dg];have h1:=Hj l (Dq x n);have h2:=Hu x n;split <;> omega
theorem Hi:∀ (l:List (Ak×Ab))(n:Int),Dt l n≤n
 | [],n=>by simp[Dt]
 | x::l,n=>by
  rw[Dt];have h1:=Hi l (Pr x n);have h2:=longA_le x n;split <;> omega
theorem longA_le:∀ (x:Ak×Ab)(n:Int),Pr x n≤n
 | (p,x),n=>by
  rw[Pr];have h1:=Hu x (Dd p n);have h2:=Is p n;omega
end
mutual
theorem U7:∀ (x:Ak)(n:Int),WtP x→(0<n→-LW≤Dd x n)∧(n≤0→n-LW≤Dd x n)
 | .mk k a nm m s ls args,n,.mk hk h1 h2 h3 h4 h5 h6=>by
  rw[Dd];constructor
  ·intro hn;exact Ro args _ h6 (.inr (Rm ls _ h4 (.inr (by unfold LW reachBytes at *;omega))))
  ·intro hn;have e:n-(nm.length+s.length+1)≤0:=by omega
   rw[Lg _ _ e,Pv _ _ e];unfold LW reachBytes at *;omega
theorem Ro:∀ (l:List Ak)(n:Int),(∀ (i:Nat)(x:Ak),l[i]?=some x→WtP x)→0<n∨-LW≤n→-LW≤Dh l n
 | [],n,_,h=>by rw[Dh];unfold LW at *;omega
 | x::l,n,hl,h=>by
  rw[Dh];split
  ·exact Ro l _ (fun i y hy=>hl (i+1) y hy) (.inr ((U7 x n (hl 0 x rfl)).1 (by assumption)))
  ·omega
end
theorem Lh:∀ (l:List LB)(n:Int),0<Cj l n→n≤65536→∀ x ∈ l,x.length≤65536
 | [],_,_,_=>fun x hx=>by cases hx
 | y::l,n,h,hn=>fun x hx=>by
  rw[Cj] at h;split at h
  ·have h1:=Gk l (n-(y.length+1));rcases List.mem_cons.1 hx with rfl|hx
   ·omega
   ·exact Lh l _ h (by omega) x hx
  ·omega
mutual
theorem Mv:∀ (x:Ak)(n:Int),WtP x→0<Dd x n→n≤65536→Dd x n+szP x≤n∧SwP x
 | .mk k a nm m s ls args,n,.mk hk h1 h2 h3 h4 h5 h6,h,hn=>by
  rw[Dd] at h ⊢;obtain⟨g1,g2⟩:=Pw args _ h6 h (by have:=Gk ls (n-(nm.length+s.length+1));omega);have g3:=Gk ls (n-(nm.length+s.length+1));have g4:=Hk args (Cj ls (n-(nm.length+s.length+1)));have g5:=Lh ls _ (by omega) (by omega:n-(nm.length+s.length+1)≤65536);simp only[szP];exact⟨by push_cast;omega,⟨by omega,inN_of hk.2.2,by omega,g5⟩,g2⟩
theorem Pw:∀ (l:List Ak)(n:Int),(∀ (i:Nat)(x:Ak),l[i]?=some x→WtP x)→0<Dh l n→n≤65536→Dh l n+Ey l≤n∧Qw l
 | [],n,_,h,_=>by rw[Dh] at h ⊢;simp only[Ey];exact⟨by omega,trivial⟩
 | x::l,n,hl,h,hn=>by
  rw[Dh] at h ⊢;split at h
  ·rename_i h0
   rw[if_pos h0];have g:=Is x n;obtain⟨g1,g2⟩:=Pw l _ (fun i y hy=>hl (i+1) y hy) h (by omega);have g5:=Hk l (Dd x n);obtain⟨g3,g4⟩:=Mv x n (hl 0 x rfl) (by omega) hn;simp only[Ey];exact⟨by push_cast;omega,g4,g2⟩
  ·omega
end
mutual
theorem Ir:∀ (x:Ab)(n:Int),WtE x→0<Dq x n→n≤65536→Dq x n+szE x≤n∧SwE x
 | .mk k a nm m s ls args arms,n,.mk hk h1 h2 h3 h4 h5 h6 h7 h8 h9,h,hn=>by
  rw[Dq] at h ⊢;have g3:=Gk ls (n-(nm.length+s.length+1));have g4:=Hj args (Cj ls (n-(nm.length+s.length+1)));have g6:=Hi arms (Dg args (Cj ls (n-(nm.length+s.length+1))));obtain⟨g7,g8⟩:=Ps arms _ h8 h9 h (by omega);obtain⟨g1,g2⟩:=Pt args (Cj ls (n-(nm.length+s.length+1))) h6 (by omega) (by omega);have g5:=Lh ls _ (by omega) (by omega:n-(nm.length+s.length+1)≤65536);simp only[szE];exact⟨by push_cast;omega,⟨by omega,inN_of hk.2.2,by omega,g5⟩,g2,g8⟩
theorem Pt:∀ (l:List Ab)(n:Int),(∀ (i:Nat)(x:Ab),l[i]?=some x→WtE x)→0<Dg l n→n≤65536→Dg l n+B1 l≤n∧Im l
 | [],n,_,h,_=>by rw[Dg] at h ⊢;simp only[B1];exact⟨by omega,trivial⟩
 | x::l,n,hl,h,hn=>by
  rw[Dg] at h ⊢;split at h
  ·rename_i h0
   rw[if_pos h0];have g:=Hu x n;obtain⟨g1,g2⟩:=Pt l _ (fun i y hy=>hl (i+1) y hy) h (by omega);have g5:=Hj l (Dq x n);obtain⟨g3,g4⟩:=Ir x n (hl 0 x rfl) (by omega) hn;simp only[B1];exact⟨by push_cast;omega,g4,g2⟩
  ·omega
theorem Ps:∀ (l:List (Ak×Ab))(n:Int),(∀ (i:Nat)(p:Ak)(x:Ab),l[i]?=some (p,x)→WtP p)→(∀ (i:Nat)(p:Ak)(x:Ab),l[i]?=some (p,x)→WtE x)→0<Dt l n→n≤65536→Dt l n+Cd l≤n∧Ny l
 | [],n,_,_,h,_=>by rw[Dt] at h ⊢;simp only[Cd];exact⟨by omega,trivial⟩
 | (p,x)::l,n,hp,hx,h,hn=>by
  rw[Dt] at h ⊢;split at h
  ·rename_i h0
   rw[if_pos h0];rw[Pr] at h ⊢;have g:=Is p n;have g0:=Hu x (Dd p n);have g5:=Hi l (Dq x (Dd p n));obtain⟨g1,g2⟩:=Ps l _ (fun i p y hy=>hp (i+1) p y hy) (fun i p y hy=>hx (i+1) p y hy) h (by omega);obtain⟨g3,g4⟩:=Ir x (Dd p n) (hx 0 p x rfl) (by omega) (by omega);obtain⟨g6,g7⟩:=Mv p n (hp 0 p x rfl) (by omega) hn;simp only[Cd,szA];exact⟨by push_cast;omega,⟨g7,g4⟩,g2⟩
  ·omega
end
theorem stop_end(a:Nat)(tx:LB)(n:Int):Hb ⟨0,a,tx,n⟩ 0:=⟨Ol _ _ _ _ _,by rfl,fun _ _ _=>Ol _ _ _ _ _⟩
theorem Vh{s:LB}{us:List Tok}{T:Ab}{j:Nat}{u:Tok}(hl:Da s = .ok us)(hr:Run us (body .seq) ⟨0,true⟩ (.e T) ⟨j,true⟩)(hu:us[j]?=some u)(hk:u.k=0){x:Ab}{er p:Int}(h:PR s x er p):
  (er=3∧x = .zero∧4096<szE T)∨(er=22∧x = .zero∧szE T≤4096∧Dz 200 T≠none)∨(er=0∧x=T∧szE T≤4096∧Dz 200 T=none):=by
 have key:∀ {ts':List Tok} {x':Ab} {st':St} {t':Tok},Da s = .ok ts'→Run ts' (body .seq) ⟨0,true⟩ (.e x') st'→ts'[st'.i]?=some t'→x'=T∧st'=⟨j,true⟩∧t'=u:=by
  intro ts' x' st' t' hl' hr' ht';rw[hl] at hl';cases hl';obtain⟨e1,e2⟩:=hr.det hr';cases e1;cases e2;rw[hu] at ht';cases ht';exact⟨rfl,rfl,rfl⟩
 cases h with
 | lexErr h=>rw[hl] at h;cases h
 | syn hl' hr' ht' hb=>obtain⟨rfl,rfl,rfl⟩:=key hl' hr' ht';exact(hb.elim (fun h=>by cases h) (fun h=>h hk)).elim
 | many hl' hr' ht' _ _ hm=>obtain⟨rfl,rfl,rfl⟩:=key hl' hr' ht';exact .inl ⟨rfl,rfl,hm⟩
 | deep hl' hr' ht' _ _ hm hd=>obtain⟨rfl,rfl,rfl⟩:=key hl' hr' ht';exact .inr (.inl ⟨rfl,rfl,hm,by rw[hd];simp⟩)
 | ok hl' hr' ht' _ _ hm hd=>obtain⟨rfl,rfl,rfl⟩:=key hl' hr' ht';exact .inr (.inr ⟨rfl,rfl,hm,hd⟩)
theorem Na{x:Ab}(h:Be x=true){us:List Tok}(hE:Gs us)(hm:us.map Lr=tkE x++[(0,[],0)]):∃ y,Bl x y∧Run us (body .seq) ⟨0,true⟩ (.e y) ⟨(tkE x).length,true⟩∧∃ a,us[(tkE x).length]?=some ⟨0,a,[],0⟩:=by
 have hs:=B6.of_map hm;obtain⟨y,hy,hr⟩:=(okE (szE x+1) x (Nat.lt_succ_self _) h).at_ hE (q:=(0,[],0)) (r:=[]) hs (fun a=>stop_end a [] 0) 0 (Nr' _) (by decide);obtain⟨a,ha⟩:=B6.mid (q:=(0,[],0)) (b:=[]) hs;rw[Nat.zero_add] at hr ha;exact⟨y,hy,hr,a,ha⟩
theorem Vu{x:Ab}(h:Be x=true)(hl:(txE x).length≤4096){y:Ab}{er p:Int}(hp:PR (txE x) y er p):
  (er=3∧y = .zero∧4096<szE x)∨(er=22∧y = .zero∧szE x≤4096∧Dz 200 x≠none)∨(er=0∧Bl x y∧szE x≤4096∧Dz 200 x=none):=by
 obtain⟨us,hu,hm⟩:=I6 hl (Kk h);obtain⟨z,hz,hr,a,ha⟩:=Na h (Pf (Ji hu)) hm
 rcases Vh hu hr ha rfl hp with⟨e,e2,h3⟩| ⟨e,e2,h3,h4⟩| ⟨e,rfl,h3,h4⟩
 ·rw[hz.sz] at h3;exact .inl ⟨e,e2,h3⟩
 ·rw[hz.sz] at h3;exact .inr (.inl ⟨e,e2,h3,fun hn=>h4 ((hz.deep 200).1 hn)⟩)
 ·rw[hz.sz] at h3;exact .inr (.inr ⟨e,hz,h3,(hz.deep 200).2 h4⟩)
def TG(t:Tok):Prop:=(t.k=1→As t.text=true)∧(t.k=2∨t.k=3→Dm t.text=true)∧(t.k=4→0≤t.n∧t.n≤Ea)
theorem Vr(l:LB):(Cc l).all Cq=true:=List.all_eq_true.2 fun x hx=>by
 unfold Cc at hx;exact(List.all_eq_true.1 (List.all_takeWhile (p:=Cq) (l:=l))) x hx
theorem us_word(s:LB):Df (95::s)=false:=by
 rw[Bool.eq_false_iff];intro h;unfold Df at h;rw[List.contains_iff_mem] at h;have key:∀ x ∈ Qp,x.head?≠some 95:=by decide
 exact key _ h rfl
theorem R3{c:UInt8}{r:LB}(h:Cf c=true):Dm (Cc (c::r))=true:=by
 have hall:=Vr (c::r);rw[Gm r (K1 h)] at hall ⊢;unfold Dm As;simp only;rw[h,us_word]
 have h95:(95::c::Cc r).all Cq=true:=by
  rw[List.all_cons,hall];decide
 rw[h95];decide
theorem tok_good{l:LB}{k:Int}{t:LB}{n:Int}{m:Nat}(h:tok l = .ok (k,t,n,m))(a:Nat):TG ⟨k,a,t,n⟩:=by
 unfold tok at h;split at h
 ·cases h
 ·rename_i c r
  split at h
  ·rename_i h1
   simp only[Except.ok.injEq,Prod.mk.injEq] at h;obtain⟨rfl,rfl,rfl,rfl⟩:=h;refine⟨fun e=>?_,fun e=>?_,fun e=>?_⟩
   ·have hw:Df (Cc (c::r))=false:=by
     rw[Bool.eq_false_iff];intro hw;simp only[hw,if_true] at e;omega
    show As (Cc (c::r))=true;have hall:=Vr (c::r);rw[Gm r (O8 h1)] at hall hw ⊢;simp only[As,h1,hall,hw];decide
   ·simp only at e;split at e <;> omega
   ·simp only at e;split at e <;> omega
  ·split at h
   ·rename_i h2
    simp only[Except.ok.injEq,Prod.mk.injEq] at h;obtain⟨rfl,rfl,rfl,rfl⟩:=h;exact⟨fun e=>by simp only at e;omega,fun _=>R3 h2,fun e=>by simp only at e;omega⟩
   ·split at h
    ·rename_i h3
     simp only[Except.ok.injEq,Prod.mk.injEq] at h;obtain⟨rfl,rfl,rfl,rfl⟩:=h;refine⟨fun e=>by simp only at e;omega,fun _=>?_,fun e=>by simp only at e;omega⟩
     cases r with
     | nil=>exact absurd h3.2 (by simp)
     | cons d r=>exact R3 (by simpa using h3.2)
    ·split at h
     ·split at h
      ·rename_i hr
       simp only[Except.ok.injEq,Prod.mk.injEq] at h;obtain⟨rfl,rfl,rfl,rfl⟩:=h;refine⟨fun e=>by simp only at e;omega,fun e=>by simp only at e;omega,fun _=>?_⟩;show 0≤C8 (Cc (c::r))∧C8 (Cc (c::r))≤Ea;unfold C8 Ea;split
       ·rename_i hv;exact⟨Int.natCast_nonneg _,by have:=hv.2;omega⟩
       ·decide
      ·cases h
     ·split at h
      ·split at h
       ·cases h
       ·split at h
        ·cases h
        ·simp only[Except.ok.injEq,Prod.mk.injEq] at h;obtain⟨rfl,rfl,rfl,rfl⟩:=h;exact⟨fun e=>by simp only at e;omega,fun e=>by simp only at e;omega,fun e=>by simp only at e;omega⟩
      ·split at h
       ·cases h
       ·simp only[Except.ok.injEq,Prod.mk.injEq] at h;obtain⟨rfl,rfl,rfl,rfl⟩:=h;exact⟨fun e=>by simp only at e;omega,fun e=>by simp only at e;omega,fun e=>by simp only at e;omega⟩
theorem lex_good{s:LB}{ts:List Tok}(h:Da s = .ok ts):∀ (j:Nat)(t:Tok),ts[j]?=some t→TG t:=by
 unfold Da at h;split at h
 ·cases h
 ·have key:=Jm (P:=fun _ _ ts=>∀ t ∈ ts,TG t) ?_ ?_ ?_ s.length 0 s ts h
  ·exact fun j t ht=>key t (List.mem_of_getElem? ht)
  ·intro a t ht;rw[List.mem_singleton] at ht;subst ht;exact⟨fun e=>by simp only at e;omega,fun e=>by simp only at e;omega,fun e=>by simp only at e;omega⟩
  ·intro a c r ts _ ih;exact ih
  ·intro a c r k t n m ts _ ht ih y hy;rcases List.mem_cons.1 hy with rfl|hy
   ·exact tok_good ht a
   ·exact ih y hy
theorem Mx{l:List Ab}{x:Ab}(h:Au l=true)(hx:Be x=true):Au (l++[x])=true:=by
 induction l with
 | nil=>simp[Au,hx]
 | cons y l ih=>rw[Au,Ba'] at h;rw[Lp',Au,h.1,ih h.2];rfl
theorem Rq{l:List Ak}{x:Ak}(h:Db l=true)(hx:Ct x=true):Db (l++[x])=true:=by
 induction l with
 | nil=>simp[Db,hx]
 | cons y l ih=>rw[Db,Ba'] at h;rw[Lp',Db,h.1,ih h.2];rfl
theorem Rp{l:List (Ak×Ab)}{p:Ak}{x:Ab}(h:A0 l=true)(hp:Ct p=true)(hx:Be x=true):A0 (l++[(p,x)])=true:=by
 induction l with
 | nil=>simp[A0,mayA,hp,hx]
 | cons y l ih=>rw[A0,Ba'] at h;rw[Lp',A0,h.1,ih h.2];rfl
theorem Kd{l:List LB}{x:LB}(h:l.all As=true)(hx:As x=true):(l++[x]).all As=true:=by
 rw[List.all_append,h];simp[hx]
theorem On{k a:Int}{x y:Ab}(hk:k=8∨k=20∨k=21∨k=22)(hx:Be x=true)(hy:Be y=true):Be (D4 k a [x,y])=true:=by
 rcases hk with rfl|rfl|rfl|rfl <;> simp[D4,Be,Au,A0,El,Bt,Ah,A9,hx,hy]
theorem Om{n a:Int}{x y:Ab}(hn:n=1∨n=2∨n=3∨n=4∨n=5∨n=7∨n=8∨n=12)(hx:Be x=true)(hy:Be y=true):Be (opE n a [x,y])=true:=by
 rcases hn with rfl|rfl|rfl|rfl|rfl|rfl|rfl|rfl <;> simp[opE,Be,Au,A0,El,Bt,Ah,A9,Dc,hx,hy]
theorem Xj{n a:Int}{x:Ab}(hn:n=6∨n=9∨n=11)(hx:Be x=true):Be (opE n a [x])=true:=by
 rcases hn with rfl|rfl|rfl <;> simp[opE,Be,Au,A0,El,Bt,Ah,A9,Dc,hx]
theorem may_op{n a:Int}{l:List Ab}(h1:1≤n)(h2:n≤21)(hl:l.length=Dc n)(h:Au l=true):Be (opE n a l)=true:=by
 simp[opE,Be,A0,El,Bt,Ah,A9,h,hl,h1,h2]
theorem may_arms{k a:Int}{x:Ab}{ms:List (Ak×Ab)}(hk:k=16∨k=17)(hx:Be x=true)(hm:A0 ms=true)(hne:ms≠[]):Be (.mk k a [] 0 [] [] [x] ms)=true:=by
 have hp:0<ms.length:=List.length_pos_iff.2 hne;rcases hk with rfl|rfl <;> simp[Be,Au,El,Bt,Ah,A9,hx,hm,hp]
theorem Xi{a:Int}{ls:List LB}{l:List Ab}(hn:ls.all As=true)(hl:l.length=ls.length)(h:Au l=true):Be (.mk 12 a [] 0 [] ls l [])=true:=by
 have hn':=hn;rw[List.all_eq_true] at hn';simp[Be,A0,El,Bt,Ah,A9,h,hl];exact hn'
theorem Vc{a:Int}{ls:List LB}{l:List Ak}(hn:ls.all As=true)(hl:l.length=ls.length)(h:Db l=true):Ct (.mk 9 a [] 0 [] ls l)=true:=by
 have hn':=hn;rw[List.all_eq_true] at hn';simp[Ct,F0,Ee,Ah,D9,h,hl];exact hn'
theorem Sj{tx:LB}{n:Int}{m:Nat}(h:Bb tx=(n,m))(h0:0<n):m=Dc n∧1≤n∧n≤21:=by
 unfold Bb at h
 repeat(split at h;· cases h;exact⟨by decide,by decide,by decide⟩)
 cases h;exact absurd h0 (by decide)
theorem Ss{t:Tok}{ok:Bool}{l:List LB}(h:isB t ok l=true):t.text ∈ l:=by
 unfold isB at h;simp only[Ba',List.contains_iff_mem] at h;exact h.2
def PPre:PNT→Prop
 | .marked x=>∃ a,x = .mk 0 a [] 0 [] [] []
 | .recL _ ls args=>ls.all As=true∧args.length=ls.length∧Db args=true
 | _=>True
def NPre:NT→Prop
 | .arms k _=>k=16∨k=17
 | .armsL k _ x acc=>(k=16∨k=17)∧Be x=true∧A0 acc=true
 | .sumL a=>Be a=true
 | .prodL a=>Be a=true
 | .opL n _ m acc=>1≤n∧n≤21∧acc.length+m=Dc n∧Au acc=true
 | .appL a=>Be a=true
 | .postL a=>Be a=true
 | .recL _ ls args=>ls.all As=true∧args.length=ls.length∧Au args=true
 | _=>True
def Prn(Q:Ab→Prop):Option (Tok×Bool)→Cmd→Prop
 | _,.retE x=>Q x
 | kn,.retP x=>(∀ t,kn≠some (t,false))→Ct x=true
 | kn,.look k=>∀ t ok,TG t→(∀ p,kn=some p→p=(t,ok))→Prn Q (some (t,ok)) (k t ok)
 | kn,.ahead k=>∀ n,Prn Q kn (k n)
 | _,.adv k=>Prn Q none k
 | _,.fail _=>True
 | _,.callE nt k=>NPre nt∧∀ x,Tn nt x→Prn Q none (k x)
 | _,.callP nt k=>PPre nt∧∀ x,Ct x=true→Prn Q none (k x)
section
variable {Q:Ab→Prop}
theorem Yw{c:Cmd}{kn:Option (Tok×Bool)}(h:Prn Q none c):Prn Q kn (.adv c):=h
theorem Ca{p:Prop} [Decidable p] {c d:Cmd}{kn:Option (Tok×Bool)}(h1:p→Prn Q kn c)(h2:¬ p→Prn Q kn d):Prn Q kn (if p then c else d):=by
 split
 ·exact h1 (by assumption)
 ·exact h2 (by assumption)
theorem Yx{s:LB}{k:Bool→Cmd}{kn:Option (Tok×Bool)}(h1:Prn Q none (k true))(h2:∀ t ok,TG t→(∀ p,kn=some p→p=(t,ok))→Prn Q (some (t,ok)) (k false)):Prn Q kn (Cl s k):=by
 intro t ok hg he;show Prn Q _ (if _ then _ else _);split
 ·exact h1
 ·exact h2 t ok hg he
theorem D1{s:LB}{c d:Cmd}{kn:Option (Tok×Bool)}(h1:Prn Q none c)(h2:∀ t ok,TG t→(∀ p,kn=some p→p=(t,ok))→Prn Q (some (t,ok)) d):Prn Q kn (Cl s fun b=>if b=true then c else d):=
 Yx (Ca (fun _=>h1) (fun h=>absurd rfl h)) (fun t ok hg he=>Ca (fun h=>by cases h) (fun _=>h2 t ok hg he))
theorem Cp{s:LB}{k:Cmd}{kn:Option (Tok×Bool)}(h:Prn Q none k):Prn Q kn (Bv s k):=by
 intro t ok _ _;show Prn Q _ (if _ then _ else _);split
 ·exact h
 ·trivial
theorem Vi{s:LB}{k:Cmd}{t:Tok}:Prn Q (some (t,false)) (Bv s k):=by
 intro t' ok' _ he;cases he _ rfl;show Prn Q _ (if isB t false [s]=true then _ else _);rw[show isB t false [s]=false from rfl,if_neg (by decide)];trivial
theorem Hy{k:LB→Cmd}{kn:Option (Tok×Bool)}(h:∀ s,As s=true→Prn Q none (k s)):Prn Q kn (Fv k):=by
 intro t ok hg _;show Prn Q _ (if _ then _ else _);split
 ·rename_i hb
  unfold Ks at hb;simp only[Ba',beq_iff_eq] at hb;exact h _ (hg.1 hb.2)
 ·trivial
theorem Dk{x:Ak}{kn:Option (Tok×Bool)}(h:Ct x=true):Prn Q kn (.retP x):=fun _=>h
theorem prnP(nt:PNT)(kn:Option (Tok×Bool))(hn:PPre nt):Prn Q kn (Cn nt):=by
 cases nt with
 | pat =>
  intro t ok hg _;refine Ca (fun h=>?_) (fun _=>⟨trivial,fun x hx=>Dk hx⟩);simp only[Ba',beq_iff_eq] at h
  exact⟨trivial,fun x hx=>Dk (by simp[Ct,Db,F0,Ee,Ah,D9,hx,hg.2.1 (.inr h.2)])⟩
 | patom =>
  intro t ok hg _;refine Ca (fun h=>fun h2=>absurd rfl (by rw[h] at h2;exact h2 t)) (fun hok=>?_);refine Ca (fun h=>?_) (fun _=>Ca (fun h=>?_) (fun _=>Ca (fun h=>?_) (fun _=>Ca (fun h=>?_) (fun _=>⟨⟨_,rfl⟩,fun x hx=>Dk hx⟩))))
  ·have:=hg.1 h;show(∀ t,none≠some (t,false))→Ct (if _ then _ else _)=true;intro _;split
   ·simp[Ct,Db,F0,Ee,Ah,D9]
   ·rename_i h95
    simp[Ct,Db,F0,Ee,Ah,D9,this,h95]
  ·exact Dk (Q:=Q) (by simp[Ct,Db,F0,Ee,Ah,D9,hg.2.1 (.inl h)])
  ·have:=hg.2.2 h;refine Dk (Q:=Q) ?_;simp[Ct,Db,F0,Ee,Ah,D9];unfold Ea at this ⊢;omega
  ·exact Dk (Q:=Q) (by simp[Ct,Db,F0,Ee,Ah,D9])
 | marked x =>
  obtain⟨a,rfl⟩:=hn;rw[Nh];refine D1 ?_ (fun t0 ok0 _ _=>D1 ?_ (fun t1 ok1 _ _=>D1 ?_ (fun t2 ok2 _ _=>D1 ?_ (fun t3 ok3 _ _=>D1 ?_ (fun t4 ok4 _ _=>trivial)))))
  ·intro t ok hg _;refine Ca (fun h=>?_) (fun _=>trivial);have:=hg.2.2 h
   have key:Ct (.mk 3 a [] (wrap64 (-t.n)) [] [] [])=true:=by
    simp[Ct,Db,F0,Ee,Ah,D9];unfold Ea at this ⊢;unfold wrap64;omega
   exact Ca (fun _=>Yw (Dk (Q:=Q) key)) (fun _=>Dk (Q:=Q) key)
  ·exact Dk (by simp[Ct,Db,F0,Ee,Ah,D9])
  ·exact Dk (by simp[Ct,Db,F0,Ee,Ah,D9])
  ·exact D1 (Dk (by simp[Ct,Db,F0,Ee,Ah,D9])) (fun t ok _ _=>⟨trivial,fun x hx=>Cp (Dk hx)⟩)
  ·refine D1 (Dk (by simp[Ct,Db,F0,Ee,Ah,D9])) (fun t ok _ _=>?_);intro t' ok' _ _
   exact Ca (fun _=>⟨⟨rfl,rfl,rfl⟩,fun x hx=>Dk hx⟩) (fun _=>Cp (Dk (by simp[Ct,Db,F0,Ee,Ah,D9])))
 | recL a ls args =>
  obtain⟨h1,h2,h3⟩:=hn;rw[Ml];exact Hy fun s hs=>Cp ⟨trivial,fun p hp=>D1 ⟨⟨Kd h1 hs,by simp[h2],Rq h3 hp⟩,fun x hx=>Dk hx⟩ (fun _ _ _ _=>Cp (Dk (Vc (Kd h1 hs) (by simp[h2]) (Rq h3 hp))))⟩
theorem prnE(nt:NT)(kn:Option (Tok×Bool))(hn:NPre nt):Prn (Tn nt) kn (body nt):=by
 cases nt with
 | seq=>exact⟨trivial,fun x hx t ok hg _=>D1 ⟨trivial,fun y hy=>On (by omega) hx hy⟩ (fun _ _ _ _=>hx)⟩
 | item =>
  intro t ok hg _;refine D1 ?_ (fun t0 ok0 _ _=>?_)
  ·refine Yx ?_ (fun _ _ _ _=>?_)
   ·exact Hy fun s hs=>Cp ⟨trivial,fun x hx=>Cp ⟨trivial,fun y hy=>by
     have hx1:=hx.1
     have hx2:=hx.2
     show Be (.mk 10 t.at' s 0 [] [] [x,y] [])=true
     simp[Be,Au,A0,El,Bt,Ah,A9,Dp,hs,hx1,hx2,hy.may]⟩⟩
   ·exact Hy fun s hs=>Cp ⟨trivial,fun x hx=>Cp ⟨trivial,fun y hy=>by
     have hx1:=hx.may
     show Be (.mk 9 t.at' s 0 [] [] [x,y] [])=true
     simp[Be,Au,A0,El,Bt,Ah,A9,hs,hx1,hy.may]⟩⟩
  ·intro t1 ok1 _ _;refine Ca (fun _=>⟨trivial,fun x hx=>hx.may⟩) (fun _=>?_);refine D1 ⟨.inl rfl,fun x hx=>hx.may⟩ (fun _ _ _ _=>D1 ⟨.inr rfl,fun x hx=>hx.may⟩ (fun _ _ _ _=>D1 ?_ (fun _ _ _ _=>D1 ?_ (fun _ _ _ _=>?_))))
   ·exact⟨trivial,fun x hx=>Cp ⟨trivial,fun y hy=>Cp ⟨trivial,fun z hz=>by
     show Be _=true
     simp[D4,Be,Au,A0,El,Bt,Ah,A9,hx.may,hy.may,hz.may]⟩⟩⟩
   ·exact⟨trivial,fun x hx=>by
     show Be _=true
     simp[D4,Be,Au,A0,El,Bt,Ah,A9,hx.may]⟩
   ·exact⟨trivial,fun x hx t ok hg _=>D1 ⟨trivial,fun y hy=>Om (by omega) hx hy⟩ (fun _ _ _ _=>hx)⟩
 | fn =>
  intro t ok hg _
  exact Cp (Hy fun s hs=>Cp ⟨trivial,fun x hx=>⟨by
   simp[Be,Au,A0,El,Bt,Ah,A9,hs,hx.may],rfl⟩⟩)
 | arms k a =>
  refine⟨trivial,fun x hx=>Cp fun t ok _ _=>?_⟩;show Prn _ _ (if ok=true then _ else _)
  cases ok with
  | true=>exact Ca (fun _=>⟨⟨hn,hx,rfl⟩,fun y hy=>hy⟩) (fun h=>absurd rfl h)
  | false=>exact Ca (fun h=>by cases h) (fun _=>Vi)
 | armsL k a x acc =>
  obtain⟨hk,hx,hc⟩:=hn
  exact⟨trivial,fun p hp=>Cp ⟨trivial,fun y hy=>D1 ⟨⟨hk,hx,Rp hc hp hy⟩,fun z hz=>hz⟩ (fun _ _ _ _=>Cp (may_arms hk hx (Rp hc hp hy) (by simp)))⟩⟩
 | or=>exact⟨trivial,fun x hx t ok hg _=>D1 ⟨trivial,fun y hy=>On (by omega) hx hy⟩ (fun _ _ _ _=>hx)⟩
 | and=>exact⟨trivial,fun x hx t ok hg _=>D1 ⟨trivial,fun y hy=>On (by omega) hx hy⟩ (fun _ _ _ _=>hx)⟩
 | cmp=>exact⟨trivial,fun x hx t ok hg _=>Ca (fun h=>⟨trivial,fun y hy=>Om (by
   have:=Ss h
   simp at this
   rcases this with e|e <;> rw[e] <;> decide) hx hy⟩) (fun _=>hx)⟩
 | sum=>exact⟨trivial,fun x hx=>⟨hx,fun y hy=>hy⟩⟩
 | sumL a=>exact fun t ok hg _=>Ca (fun h=>⟨trivial,fun y hy=>⟨Om (by
   have:=Ss h
   simp at this
   rcases this with e|e <;> rw[e] <;> decide) hn hy,fun z hz=>hz⟩⟩) (fun _=>hn)
 | prod=>exact⟨trivial,fun x hx=>⟨hx,fun y hy=>hy⟩⟩
 | prodL a=>exact fun t ok hg _=>Ca (fun h=>⟨trivial,fun y hy=>⟨Om (by
   have:=Ss h
   simp at this
   rcases this with e|e|e <;> rw[e] <;> decide) hn hy,fun z hz=>hz⟩⟩) (fun _=>hn)
 | unary=>exact fun t ok hg _=>D1 ⟨trivial,fun x hx=>Xj (by omega) hx⟩ (fun _ _ _ _=>D1 ⟨trivial,fun x hx=>Xj (by omega) hx⟩ (fun _ _ _ _=>⟨trivial,fun x hx=>hx⟩))
 | app =>
  intro t ok hg _;refine Ca (fun h=>?_) (fun _=>Ca (fun h=>?_) (fun _=>⟨trivial,fun x hx=>⟨hx,fun y hy=>hy⟩⟩))
  ·simp only[Ba',beq_iff_eq] at h
   exact⟨trivial,fun x hx=>by
    show Be _=true
    simp[Be,Au,A0,El,Bt,Ah,A9,hx.may,hg.2.1 (.inr h.2)]⟩
  ·simp only[Ba',decide_eq_true_eq] at h;obtain⟨e1,e2,e3⟩:=Sj (n:=(Bb t.text).1) (m:=(Bb t.text).2) rfl h.2
   exact⟨⟨e2,e3,by simp[e1],rfl⟩,fun x hx=>hx⟩
 | opL n a m acc =>
  obtain⟨h1,h2,h3,h4⟩:=hn
  cases m with
  | zero=>exact may_op h1 h2 h3 h4
  | succ m=>exact⟨trivial,fun x hx=>⟨⟨h1,h2,by simp;omega,Mx h4 hx⟩,fun y hy=>hy⟩⟩
 | appL a=>exact fun t ok hg _=>Ca (fun _=>⟨trivial,fun x hx=>⟨On (by omega) hn hx,fun y hy=>hy⟩⟩) (fun _=>hn)
 | post=>exact fun t ok hg _=>D1 ⟨trivial,fun x hx=>Xj (by omega) hx⟩ (fun _ _ _ _=>⟨trivial,fun x hx=>⟨hx,fun y hy=>hy⟩⟩)
 | postL a =>
  refine fun t ok hg _=>Ca (fun h=>?_) (fun _=>hn)
  have hn:Be a=true:=hn;refine Yw (Hy fun s hs=>?_)
  exact⟨by
   show Be _=true
   simp[Be,Au,A0,El,Bt,Ah,A9,hn,hs],fun y hy=>hy⟩
 | atom =>
  intro t ok hg _;refine Ca (fun h=>?_) (fun _=>trivial);show Prn _ none (if _ then _ else _);refine Ca (fun h=>?_) (fun _=>Ca (fun h=>?_) (fun _=>Ca (fun h=>?_) (fun _=>Ca (fun h=>?_) (fun _=>Ca (fun h=>?_) (fun _=>Ca (fun h=>?_) (fun _=>Ca (fun h=>⟨trivial,fun x hx=>hx⟩) (fun _=>?_)))))))
  ·show Be _=true;simp[Be,Au,A0,El,Bt,Ah,A9,hg.1 h]
  ·show Be _=true;simp[Be,Au,A0,El,Bt,Ah,A9,hg.2.1 (.inl h)]
  ·show Be _=true;simp[Be,Au,A0,El,Bt,Ah,A9,hg.2.2 h]
  ·show Be _=true;simp[Be,Au,A0,El,Bt,Ah,A9]
  ·show Be _=true;simp[Be,Au,A0,El,Bt,Ah,A9]
  ·show Be _=true;simp[Be,Au,A0,El,Bt,Ah,A9]
  ·refine D1 ?_ (fun _ _ _ _=>⟨trivial,fun x hx=>Cp hx⟩);show Be _=true
   simp[Be,Au,A0,El,Bt,Ah,A9]
 | braces a =>
  rw[H9];have h12:Be (.mk 12 a [] 0 [] [] [] [])=true:=by simp[Be,Au,A0,El,Bt,Ah,A9]
  refine D1 h12 (fun t0 ok0 _ _=>fun n t ok hg _=>?_);refine Ca (fun _=>Ca (fun _=>⟨⟨rfl,rfl,rfl⟩,fun x hx=>hx⟩) (fun _=>Cp h12)) (fun _=>?_)
  exact⟨trivial,fun x hx=>Cp (Hy fun s hs=>Cp ⟨trivial,fun y hy=>Cp (by
   show Be _=true
   simp[Be,Au,A0,El,Bt,Ah,A9,hs,hx.may,hy.may])⟩)⟩
 | recL a ls args =>
  obtain⟨h1,h2,h3⟩:=hn;rw[Mk];exact Hy fun s hs=>Cp ⟨trivial,fun x hx=>D1 ⟨⟨Kd h1 hs,by simp[h2],Mx h3 hx⟩,fun y hy=>hy⟩ (fun _ _ _ _=>Cp (Xi (Kd h1 hs) (by simp[h2]) (Mx h3 hx)))⟩
end
def RsOk(Q:Ab→Prop):Rs→Prop
 | .e x=>Q x
 | .p x=>Ct x=true
theorem Run.prn{ts:List Tok}(hG:∀ (j:Nat)(t:Tok),ts[j]?=some t→TG t){c:Cmd}{st:St}{r:Rs}{st':St}(h:Run ts c st r st'):∀ {Q:Ab→Prop}{kn:Option (Tok×Bool)},Prn Q kn c→Kn ts st kn→st'.ok=true→RsOk Q r:=by
 induction h with
 | retE=>intro Q kn hc _ _;exact hc
 | @retP x st=>intro Q kn hc hk hok;exact hc (fun t ht=>by have:=(hk _ ht).2;rw[hok] at this;cases this)
 | look h hk ih=>intro Q kn hc hkn hok;exact ih (hc _ _ (hG _ _ h) (hkn.to h)) (Kn.see h) hok
 | ahead h hk ih=>intro Q kn hc hkn hok;exact ih (hc _) hkn hok
 | adv hk ih=>intro Q kn hc hkn hok;exact ih hc (Kn.none_ _ _) hok
 | fail hk ih=>intro Q kn hc hkn hok;have:=hk.grows.2 hok;cases this
 | @callE nt k st x st1 r st' h hk ih1 ih2 =>
  intro Q kn hc hkn hok;have hx:Tn nt x:=ih1 (prnE nt kn hc.1) hkn (hk.grows.2 hok)
  exact ih2 (hc.2 x hx) (Kn.none_ _ _) hok
 | @callP nt k st x st1 r st' h hk ih1 ih2 =>
  intro Q kn hc hkn hok;have hx:Ct x=true:=ih1 (prnP (Q:=Q) nt kn hc.1) hkn (hk.grows.2 hok);exact ih2 (hc.2 x hx) (Kn.none_ _ _) hok
theorem S5{s:LB}{x:Ab}{p:Int}(h:PR s x 0 p):Be x=true∧szE x≤4096∧Dz 200 x=none:=by
 cases h with
 | lexErr h=>rcases Ms h with⟨_,h,_⟩| ⟨_,_,h,_⟩<;> omega
 | ok hl hr ht hok hend hm hd=>exact⟨hr.prn (lex_good hl) (prnE .seq none trivial) (Kn.none_ _ _) hok,hm,hd⟩
theorem SL.map_eq{α β:Type}{R:α→α→Prop}{f:List α→List β}{g:α→β}(hf0:f []=[])(hf:∀ x l,f (x::l)=g x::f l):∀ {l m:List α},l.length=m.length→(∀ (i:Nat)(x y:α),l[i]?=some x→m[i]?=some y→g x=g y)→f l=f m
 | [],[],_,_=>rfl
 | [],_::_,h,_=>by simp at h
 | _::_,[],h,_=>by simp at h
 | x::l,y::m,h,hg=>by
  rw[hf,hf,hg 0 x y rfl rfl,SL.map_eq (R:=R) hf0 hf (by simpa using h) (fun i u v hu hv=>hg (i+1) u v (by simpa using hu) (by simpa using hv))]
theorem D8.tx{x y:Ak}(h:D8 x y):txP x=txP y:=by
 induction h with
 | mk hl h ih=>rw[txP,txP,SL.map_eq (R:=D8) (f:=Gg) (g:=txP) (by rw[Gg]) (fun x l=>by rw[Gg]) hl ih]
theorem Bl.tx{x y:Ab}(h:Bl x y):txE x=txE y:=by
 induction h with
 | mk hl h hl2 hp hx ih ih2 =>
  rw[txE,txE,SL.map_eq (R:=Bl) (f:=Az) (g:=txE) (by rw[Az]) (fun x l=>by rw[Az]) hl ih,
   SL.map_eq (R:=Tp) (f:=Cr) (g:=txA) (by rw[Cr]) (fun x l=>by rw[Cr]) hl2 (fun i q r hq hr=>by
    obtain⟨p,x⟩:=q
    obtain⟨p',y⟩:=r
    rw[txA,txA,(hp i p p' x y hq hr).tx,ih2 i p p' x y hq hr])]
theorem Ry{m:Bool}{x t:LB}{f:Int}(h:E0 m x=(t,f))(hf:f≠0):t=[]:=by
 unfold E0 at h;split at h
 ·split at h
  ·cases h;rfl
  ·cases h;exact absurd rfl hf
 ·cases h;rfl
theorem Iz{x:Ab}{t:LB}(h:Fl x=(t,0)):t=txE x∧Be x=true∧(txE x).length≤4096∧szE x≤4096∧Dz 200 x=none:=by
 unfold Fl at h;split at h
 ·cases h
 ·split at h
  ·cases h
  ·rename_i h1 h2
   obtain⟨h3,h4,h5⟩:=V9 h;exact⟨h3,h4,h5,by omega,by simpa using h2⟩
theorem showR_bad{x:Ab}{t:LB}{f:Int}(h:Fl x=(t,f))(hf:f≠0):t=[]:=by
 unfold Fl at h;split at h
 ·cases h;rfl
 ·split at h
  ·cases h;rfl
  ·exact Ry h hf
theorem Vt{x:Ab}(hm:Be x=true)(hs:szE x≤4096)(hd:Dz 200 x=none):Fl x=if 4096<(txE x).length then ([],4)else (txE x,0):=by
 unfold Fl;rw[if_neg (by omega),if_neg (by rw[hd];simp),E0,if_pos hm]
theorem Zk{e:Ab}{t:LB}(h:Fl e=(t,0)):∀ (y:Ab)(er q:Int),PR t y er q→er=0∧Bl e y∧Fl y=(t,0):=by
 intro y er q hy;obtain⟨rfl,hm,hl,hs,hd⟩:=Iz h
 rcases Vu hm hl hy with⟨_,_,h⟩| ⟨_,_,_,h⟩| ⟨rfl,h2,_⟩
 ·omega
 ·exact absurd hd h
 ·obtain⟨a1,a2,a3⟩:=S5 hy;refine⟨rfl,h2,?_⟩;rw[Vt a1 a2 a3,← h2.tx,if_neg (by omega)]
mutual
def eqE(pl:Bool):Ab→Ab→Bool
 | .mk k a nm n s ls args arms,.mk k' a' nm' n' s' ls' args' arms'=>k==k'&&(!pl||a==a')&&nm==nm'&&n==n'&&s==s'&&ls==ls'&&args.length==args'.length&&arms.length==arms'.length&&Lv pl args args'&&Km pl arms arms'
def Lv(pl:Bool):List Ab→List Ab→Bool
 | x::l,y::m=>eqE pl x y&&Lv pl l m
 | [],_=>true
 | _::_,[]=>true
def Km(pl:Bool):List (Ak×Ab)→List (Ak×Ab)→Bool
 | x::l,y::m=>eqA pl x y&&Km pl l m
 | [],_=>true
 | _::_,[]=>true
def eqA(pl:Bool):Ak×Ab→Ak×Ab→Bool
 | (p,x),(q,y)=>eqP pl p q&&eqE pl x y
end
theorem eqE_mk(pl:Bool)(k a:Int)(nm:LB)(n:Int)(s:LB)(ls:List LB)(args:List Ab)(arms:List (Ak×Ab))(k' a':Int)(nm':LB)(n':Int)(s':LB)(ls':List LB)(args':List Ab)(arms':List (Ak×Ab)):
  eqE pl (.mk k a nm n s ls args arms) (.mk k' a' nm' n' s' ls' args' arms')=(k==k'&&(!pl||a==a')&&nm==nm'&&n==n'&&s==s'&&ls==ls'&&args.length==args'.length&&arms.length==arms'.length&&Lv pl args args'&&Km pl arms arms'):=by rw[eqE]
section
variable {pl:Bool} {i:Nat}
theorem eqEs_at{l m:List Ab}{x y:Ab}(h1:l[i]?=some x)(h2:m[i]?=some y):Lv pl (l.drop i) (m.drop i)=(eqE pl x y&&Lv pl (l.drop (i+1)) (m.drop (i+1))):=by rw[Nl h1,Nl h2,Lv]
theorem eqAs_at{l m:List (Ak×Ab)}{p q:Ak}{x y:Ab}(h1:l[i]?=some (p,x))(h2:m[i]?=some (q,y)):Km pl (l.drop i) (m.drop i)=(eqP pl p q&&eqE pl x y&&Km pl (l.drop (i+1)) (m.drop (i+1))):=by rw[Nl h1,Nl h2,Km,eqA]
theorem eqEs_end{l m:List Ab}(h:l.length≤i):Lv pl (l.drop i) m=true:=by rw[List.drop_eq_nil_of_le h,Lv]
theorem eqAs_end{l m:List (Ak×Ab)}(h:l.length≤i):Km pl (l.drop i) m=true:=by rw[List.drop_eq_nil_of_le h,Km]
end
section
attribute [local go_sem ↓] Go.wp_at_zero Go.wp_at_succ
theorem Pe{w0 W:World}{g o:Nat}(hg:g<w0.heap.size)(hf:Fr [] w0 W){v0 v1 v2 v3 v4 v5 v6 v7:Value}(hc:∀ (j:Nat)(v:Value),[v0,v1,v2,v3,v4,v5,v6,v7][j]?=some v→w0.cell? ⟨g,o+j,none⟩=some v):
  W.cell? ⟨g,o,none⟩=some v0∧W.cell? ⟨g,o+1,none⟩=some v1∧W.cell? ⟨g,o+2,none⟩=some v2∧W.cell? ⟨g,o+3,none⟩=some v3∧W.cell? ⟨g,o+4,none⟩=some v4∧W.cell? ⟨g,o+5,none⟩=some v5∧W.cell? ⟨g,o+6,none⟩=some v6∧W.cell? ⟨g,o+7,none⟩=some v7:=by
 have h:∀ (j:Nat) (v:Value),[v0,v1,v2,v3,v4,v5,v6,v7][j]?=some v→W.cell? ⟨g,o+j,none⟩=some v:=fun j v hv=>kcell hf (hc j v hv) hg
 exact⟨h 0 _ rfl,h 1 _ rfl,h 2 _ rfl,h 3 _ rfl,h 4 _ rfl,h 5 _ rfl,h 6 _ rfl,h 7 _ rfl⟩
end
end Go.Proofs.YtabhpdhajajoiaaGreatDoor
