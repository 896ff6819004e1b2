/- A part of the proof: Ua, Ub, Uc, Ud, Ue, Uf, Ug, Uh, Ui, Uj, Ul, Um, Un, Uo, Uq, Ur, Ut, Uv, Uw, Ux, Ja, Uy, Uz, Uz2. -/
import Derived.WalkKit
import Derived.Test.YtoimdiballicnaaGreatDoorHb0
namespace Go.Proofs.YtoimdiballicnaaGreatDoor
open Go.RowKit
set_option linter.all false
set_option maxHeartbeats 16000000
set_option maxRecDepth 100000
structure Fl (α:Type) where
 lb:List UInt8
 pr:Int
 p:Int
 t:α
inductive TyT where
 | mk (k v:Int) (args:List TyT) (fs:List (Fl TyT)) (rest:Int)
abbrev Fd:=Fl TyT
def TyT.zero:TyT:=.mk 0 0 [] [] 0
def TyT.var(v:Int):TyT:=.mk 1 v [] [] 0
def TyT.k:TyT→Int | .mk k _ _ _ _=>k
def TyT.v:TyT→Int | .mk _ v _ _ _=>v
def TyT.args:TyT→List TyT | .mk _ _ a _ _=>a
def TyT.fs:TyT→List Fd | .mk _ _ _ f _=>f
def TyT.rest:TyT→Int | .mk _ _ _ _ r=>r
structure Sub where
 ty:Int→TyT
 pr:Int→Int×Int
 rw:Int→List Fd×Int
def Sub.one:Sub:=⟨TyT.var,fun p=>(2,p),fun r=>([],r)⟩
def rwd(k:Int):Bool:=k==10||k==11
def ltB:List UInt8→List UInt8→Bool
 | [],[]=>false
 | [],_::_=>true
 | _::_,[]=>false
 | a::l,b::m=>a.toNat<b.toNat||(a.toNat==b.toNat&&ltB l m)
def insF(f:Fd):List Fd→List Fd
 | []=>[f]
 | g::l=>if ltB f.lb g.lb then f::g::l else g::insF f l
def srt(l:List Fd):List Fd:=l.foldl (fun acc f=>insF f acc) []
def here(f:Fd):Bool:=f.pr != 0
def nrm(l:List Fd)(r:Int):List Fd×Int:=(if r=0 then (srt l).filter here else srt l,r)
mutual
/-- a type,all that is known put in -/
def ap(s:Sub):TyT→TyT
 | .mk k v args fs rest =>
  if k=1 then s.ty v
  else if rwd k=true then
   let q:=nrm (apFs s fs++(s.rw rest).1) (s.rw rest).2
   .mk k v (apTs s args) q.1 q.2
  else .mk k v (apTs s args) [] 0
def apTs(s:Sub):List TyT→List TyT
 | []=>[]
 | x::l=>ap s x::apTs s l
def apFs(s:Sub):List Fd→List Fd
 | []=>[]
 | f::l=>apF s f::apFs s l
def apF(s:Sub):Fd→Fd
 | ⟨lb,pr,p,t⟩=>
  if pr=2 then (if (s.pr p).1=0 then ⟨lb,0,(s.pr p).2,.zero⟩else ⟨lb,(s.pr p).1,(s.pr p).2,ap s t⟩)
  else if pr=0 then ⟨lb,0,p,.zero⟩else ⟨lb,pr,p,ap s t⟩
end
theorem apTs_map(s:Sub)(l:List TyT):apTs s l=l.map (ap s):=by
 induction l with
 | nil=>rfl
 | cons x l ih=>rw[apTs,ih];rfl
theorem apFs_map(s:Sub)(l:List Fd):apFs s l=l.map (apF s):=by
 induction l with
 | nil=>rfl
 | cons x l ih=>rw[apFs,ih];rfl
theorem apF_lb(s:Sub)(f:Fd):(apF s f).lb=f.lb:=by
 obtain⟨lb,pr,p,t⟩:=f
 rw[apF];split
 ·split <;> rfl
 ·split <;> rfl
def cmp(s u:Sub):Sub :=
 ⟨fun v=>ap s (u.ty v),fun p=>if (u.pr p).1=2 then s.pr (u.pr p).2 else u.pr p,fun r=>(apFs s (u.rw r).1++(s.rw (u.rw r).2).1,(s.rw (u.rw r).2).2)⟩
theorem ltB_irrefl:∀ l:List UInt8,ltB l l=false
 | []=>rfl
 | a::l=>by simp[ltB,ltB_irrefl l]
theorem ltB_trans:∀ {a b c:List UInt8},ltB a b=true→ltB b c=true→ltB a c=true
 | [],[],_,h,_=>by cases h
 | [],_::_,[],_,h=>by cases h
 | [],_::_,_::_,_,_=>rfl
 | _::_,[],_,h,_=>by cases h
 | _::_,_::_,[],_,h=>by cases h
 | x::a,y::b,z::c,h,k=>by
  simp only[ltB,Bool.or_eq_true,decide_eq_true_eq,Bool.and_eq_true,beq_iff_eq] at h k ⊢
  rcases h with h|⟨h,h'⟩<;> rcases k with k|⟨k,k'⟩
  ·left;omega
  ·left;omega
  ·left;omega
  ·exact .inr ⟨by omega,ltB_trans h' k'⟩
theorem ltB_tri:∀ a b:List UInt8,ltB a b=false→ltB b a=false→a=b
 | [],[],_,_=>rfl
 | [],_::_,h,_=>by cases h
 | _::_,[],_,h=>by cases h
 | x::a,y::b,h,k=>by
  simp only[ltB,Bool.or_eq_false_iff,decide_eq_false_iff_not,Bool.and_eq_false_iff,beq_eq_false_iff_ne] at h k
  have e:x.toNat=y.toNat:=by omega
  rw[UInt8.toNat_inj.1 e,ltB_tri a b (h.2.resolve_left (by omega)) (k.2.resolve_left (by omega))]
theorem ltB_asym{a b:List UInt8}(h:ltB a b=true):ltB b a=false:=by
 cases k:ltB b a
 ·rfl
 ·have:=ltB_trans h k;rw[ltB_irrefl] at this;cases this
def leF(f g:Fd):Prop:=ltB g.lb f.lb=false
theorem leB_trans{a b c:List UInt8}(h:ltB b a=false)(k:ltB c b=false):ltB c a=false:=by
 cases e:ltB c a
 ·rfl
 ·exfalso
  cases e2:ltB a b
  ·have:=ltB_tri a b e2 h;subst this;rw[e] at k;cases k
  ·have:=ltB_trans e e2;rw[this] at k;cases k
theorem ltB_le{a b c:List UInt8}(h:ltB a b=true)(k:ltB c b=false):ltB a c=true:=by
 cases e:ltB a c
 ·exfalso
  rw[leB_trans k e] at h;cases h
 ·rfl
abbrev Sd (l:List Fd):Prop:=l.Pairwise leF
theorem ins_mem(f x:Fd):∀ l,x ∈ insF f l↔x=f∨x ∈ l
 | []=>by simp[insF]
 | g::l=>by
  rw[insF];split
  ·simp
  ·simp[ins_mem f x l];constructor <;>(rintro(h|h|h)<;> simp[h])
theorem ins_sd(f:Fd):∀ l,Sd l→Sd (insF f l)
 | [],_=>by simp[insF]
 | g::l,h=>by
  rw[insF];split
  ·rename_i hlt
   have h':=List.pairwise_cons.1 h
   exact List.pairwise_cons.2 ⟨fun x hx=>by
    rcases List.mem_cons.1 hx with rfl|hx
    ·exact ltB_asym hlt
    ·exact leB_trans (ltB_asym hlt) (h'.1 x hx),h⟩
  ·rename_i hlt
   have h':=List.pairwise_cons.1 h
   exact List.pairwise_cons.2 ⟨fun x hx=>by
    rcases(ins_mem f x l).1 hx with rfl|hx
    ·simpa [leF] using hlt
    ·exact h'.1 x hx,ins_sd f l h'.2⟩
theorem fold_sd:∀ (m acc:List Fd),Sd acc→Sd (m.foldl (fun acc f=>insF f acc) acc)
 | [],_,h=>h
 | f::m,acc,h=>fold_sd m _ (ins_sd f acc h)
theorem srt_sd(l:List Fd):Sd (srt l):=fold_sd l [] .nil
theorem ins_last(f:Fd):∀ l,(∀ x ∈ l,leF x f)→insF f l=l++[f]
 | [],_=>rfl
 | g::l,h=>by
  rw[insF,if_neg (by have:=h g (by simp);unfold leF at this;rw[this];simp),ins_last f l (fun x hx=>h x (by simp[hx]))];rfl
theorem fold_sorted:∀ (m acc:List Fd),Sd (acc++m)→m.foldl (fun acc f=>insF f acc) acc=acc++m
 | [],acc,_=>by simp
 | f::m,acc,h=>by
  have h2:=List.pairwise_append.1 h
  rw[List.foldl_cons,ins_last f acc (fun x hx=>h2.2.2 x hx f (by simp)),fold_sorted m (acc++[f]) (by simpa using h)]
  simp
theorem srt_id{l:List Fd}(h:Sd l):srt l=l:=(fold_sorted l [] (by simpa using h)).trans (List.nil_append l)
theorem srt_app(a b:List Fd):srt (srt a++b)=srt (a++b):=by
 show(srt a++b).foldl _ []=(a++b).foldl _ []
 rw[List.foldl_append,List.foldl_append]
 show b.foldl _ (srt (srt a))=b.foldl _ (srt a)
 rw[srt_id (srt_sd a)]
theorem ins_map(g:Fd→Fd)(hg:∀ f,(g f).lb=f.lb)(f:Fd):∀ l,insF (g f) (l.map g)=(insF f l).map g
 | []=>rfl
 | x::l=>by
  rw[List.map_cons,insF,insF,hg,hg];split
  ·rfl
  ·rw[ins_map g hg f l];rfl
theorem fold_map(g:Fd→Fd)(hg:∀ f,(g f).lb=f.lb):∀ (m acc:List Fd),(m.map g).foldl (fun acc f=>insF f acc) (acc.map g)=(m.foldl (fun acc f=>insF f acc) acc).map g
 | [],_=>rfl
 | f::m,acc=>by rw[List.map_cons,List.foldl_cons,List.foldl_cons,ins_map g hg,fold_map g hg m]
theorem srt_map(g:Fd→Fd)(hg:∀ f,(g f).lb=f.lb)(l:List Fd):srt (l.map g)=(srt l).map g:=fold_map g hg l []
theorem ins_filter(p:Fd→Bool)(f:Fd):∀ l,Sd l→(insF f l).filter p=if p f=true then insF f (l.filter p)else l.filter p
 | [],_=>by cases h:p f <;> simp[insF,h]
 | g::l,h=>by
  have h':=List.pairwise_cons.1 h
  rw[insF];split
  ·rename_i hlt
   have hall:∀ x ∈ (g::l).filter p,ltB f.lb x.lb=true:=fun x hx=>by
    rcases List.mem_cons.1 (List.mem_filter.1 hx).1 with rfl|hx
    ·exact hlt
    ·exact ltB_le hlt (h'.1 x hx)
   rw[List.filter_cons];split
   ·generalize (g::l).filter p=M at *
    cases M with
    | nil=>rfl
    | cons x M=>rw[insF,if_pos (hall x (by simp))]
   ·rfl
  ·rename_i hlt
   rw[List.filter_cons,ins_filter p f l h'.2,List.filter_cons]
   split
   ·split
    ·rw[insF,if_neg hlt]
    ·rfl
   ·rfl
theorem fold_filter(p:Fd→Bool):∀ (m acc:List Fd),Sd acc→(m.foldl (fun acc f=>insF f acc) acc).filter p=(m.filter p).foldl (fun acc f=>insF f acc) (acc.filter p)
 | [],_,_=>rfl
 | f::m,acc,h=>by
  rw[List.foldl_cons,fold_filter p m _ (ins_sd f acc h),ins_filter p f acc h,List.filter_cons]
  split <;> rfl
theorem srt_filter(p:Fd→Bool)(l:List Fd):(srt l).filter p=srt (l.filter p):=fold_filter p l [] .nil
theorem ap_here(s:Sub)(f:Fd)(h:here (apF s f)=true):here f=true:=by
 obtain⟨lb,pr,p,t⟩:=f
 unfold here at h ⊢
 rw[apF] at h
 simp only[bne_iff_ne,ne_eq] at h ⊢
 rintro rfl
 simp at h
theorem filter_map_here(s:Sub)(l:List Fd):((l.filter here).map (apF s)).filter here=(l.map (apF s)).filter here:=by
 induction l with
 | nil=>rfl
 | cons f l ih =>
  rw[List.filter_cons,List.map_cons,List.filter_cons]
  by_cases h:here f=true
  ·rw[if_pos h,List.map_cons,List.filter_cons,ih]
  ·rw[if_neg h,ih,if_neg (fun k=>h (ap_here s f k))]
theorem nrm_ap(s:Sub)(M N:List Fd)(r1 r2:Int)(h:r1=0→r2=0):nrm (apFs s (nrm M r1).1++N) r2=nrm (apFs s M++N) r2:=by
 have hs:∀ L,srt (apFs s (srt L)++N)=srt (apFs s L++N):=fun L=>by
  rw[apFs_map,apFs_map,← srt_map _ (apF_lb s),srt_app]
 unfold nrm
 dsimp only
 by_cases h1:r1=0
 ·have h2:=h h1
  have e:(srt (apFs s ((srt M).filter here)++N)).filter here=(srt (apFs s (srt M)++N)).filter here:=by
   rw[srt_filter here (apFs s ((srt M).filter here)++N),srt_filter here (apFs s (srt M)++N),List.filter_append,List.filter_append,apFs_map,apFs_map,filter_map_here]
  rw[if_pos h1,if_pos h2,if_pos h2,e,hs]
 ·rw[if_neg h1,hs]
def Sub.ok(s:Sub):Prop:=s.rw 0=([],0)
mutual
theorem ap_cmp(s u:Sub)(hs:s.ok):∀ t:TyT,ap s (ap u t)=ap (cmp s u) t
 | .mk k v args fs rest=>by
  rw[ap,ap]
  by_cases h1:k=1
  ·rw[if_pos h1,if_pos h1];rfl
  ·rw[if_neg h1,if_neg h1]
   by_cases h2:rwd k=true
   ·rw[if_pos h2,if_pos h2]
    dsimp only
    rw[ap,if_neg h1,if_pos h2]
    dsimp only
    have hr:(cmp s u).rw rest=(apFs s (u.rw rest).1++(s.rw (u.rw rest).2).1,(s.rw (u.rw rest).2).2):=rfl
    have e2:(nrm (apFs u fs++(u.rw rest).1) (u.rw rest).2).2=(u.rw rest).2:=rfl
    rw[apTs_cmp s u hs args,hr,e2,nrm_ap s _ _ _ _ (fun e=>by rw[e,hs]),← apFs_cmp s u hs fs]
    simp only[apFs_map,List.map_append,List.append_assoc]
   ·rw[if_neg h2,if_neg h2,ap,if_neg h1,if_neg h2,apTs_cmp s u hs args]
theorem apTs_cmp(s u:Sub)(hs:s.ok):∀ l:List TyT,apTs s (apTs u l)=apTs (cmp s u) l
 | []=>rfl
 | x::l=>by rw[apTs,apTs,apTs,ap_cmp s u hs x,apTs_cmp s u hs l]
theorem apFs_cmp(s u:Sub)(hs:s.ok):∀ l:List Fd,apFs s (apFs u l)=apFs (cmp s u) l
 | []=>rfl
 | x::l=>by rw[apFs,apFs,apFs,apF_cmp s u hs x,apFs_cmp s u hs l]
theorem apF_cmp(s u:Sub)(hs:s.ok):∀ f:Fd,apF s (apF u f)=apF (cmp s u) f
 | ⟨lb,pr,p,t⟩=>by
  have hp:(cmp s u).pr p=if (u.pr p).1=2 then s.pr (u.pr p).2 else u.pr p:=rfl
  have ih:=ap_cmp s u hs t
  by_cases h1:pr=2
  ·by_cases h2:(u.pr p).1=0
   ·simp[apF,h1,h2,hp]
   ·by_cases h3:(u.pr p).1=2
    ·simp[apF,h1,h3,hp,ih]
    ·simp[apF,h1,h2,h3,hp,ih]
  ·by_cases h2:pr=0
   ·simp[apF,h2]
   ·simp[apF,h1,h2,ih]
end
mutual
/-- parts -/
def szT:TyT→Nat
 | .mk _ _ args fs _=>1+szTs args+szFs fs
def szTs:List TyT→Nat
 | []=>0
 | x::l=>szT x+szTs l
def szFs:List Fd→Nat
 | []=>0
 | f::l=>szF f+szFs l
def szF:Fd→Nat
 | ⟨_,pr,_,t⟩=>1+if pr=0 then 0 else szT t
end
mutual
/-- a variable (of a type,or a row) stands within -/
def occT(v:Int):TyT→Bool
 | .mk k u args fs rest=>(k==1&&u==v)||occTs v args||(rwd k&&(rest==v||occFs v fs))
def occTs(v:Int):List TyT→Bool
 | []=>false
 | x::l=>occT v x||occTs v l
def occFs(v:Int):List Fd→Bool
 | []=>false
 | f::l=>occF v f||occFs v l
def occF(v:Int):Fd→Bool
 | ⟨_,pr,_,t⟩=>pr != 0&&occT v t
end
def occR(v:Int)(q:List Fd×Int):Bool:=q.2==v||occFs v q.1
def Sub.tyB(v:Int)(t:TyT):Sub:=⟨fun u=>if u=v then t else .var u,fun p=>(2,p),fun r=>([],r)⟩
def Sub.prB(p:Int)(q:Int×Int):Sub:=⟨.var,fun u=>if u=p then q else (2,u),fun r=>([],r)⟩
def Sub.rwB(r:Int)(q:List Fd×Int):Sub:=⟨.var,fun p=>(2,p),fun u=>if u=r then q else ([],u)⟩
def apRow(s:Sub)(fs:List Fd)(rest:Int):List Fd×Int:=nrm (apFs s fs++(s.rw rest).1) (s.rw rest).2
structure Ab where
 s:Sub
 most:Int
 a:TyT
 b:TyT
def Ab.grown(A:Ab):Int:=if 512<szT (ap A.s A.a)∨512<szT (ap A.s A.b)then 3 else 0
def Ab.put(A:Ab)(u:Sub):Int×Ab:=(Ab.grown { A with s:=cmp u A.s },{ A with s:=cmp u A.s })
def bindA(A:Ab)(v:Int)(t:TyT):Int×Ab:=if occT v t=true then (26,A)else A.put (.tyB v t)
def restA(A:Ab)(v:Int)(fs:List Fd)(r:Int):Int×Ab:=if occR v (apRow A.s fs r)=true then (26,A)else A.put (.rwB v (apRow A.s fs r))
def absA(A:Ab)(f:Fd):Int×Ab :=
 if (apF A.s f).pr=1 then (25,A)else if (apF A.s f).pr=2 then A.put (.prB (apF A.s f).p (0,0))else (0,A)
def presA(A:Ab)(f g:Fd):Int×Ab :=
 if f.pr=2∧g.pr=2∧f.p=g.p then (0,A)else if f.pr=2 then A.put (.prB f.p (g.pr,g.p))else if g.pr=2 then A.put (.prB g.p (f.pr,f.p))else if f.pr≠g.pr then (25,A)else (0,A)
def restsA(A:Ab)(a b:Int)(o1 o2:List Fd):Int×Ab :=
 if a=b then (if 0<a∧o1.length+o2.length≠0 then (25,A)else (0,A))
 else if a=0 then restA A b o1 0
 else if b=0 then restA A a o2 0
 else if o1.length+o2.length=0 then restA A a [] b
 else
  let r:=restA { A with most:=A.most+1 } a o2 (A.most+1)
  if r.1≠0 then r else restA r.2 b o1 (A.most+1)
def told(A:Ab)(v:Int):Bool:=decide (0<v)&&(A.s.rw v).2 != v
def insL(x:List UInt8):List (List UInt8)→List (List UInt8)
 | []=>[x]
 | y::l=>if ltB x y then x::y::l else y::insL x l
def srtL(l:List (List UInt8)):List (List UInt8):=l.foldl (fun acc f=>insL f acc) []
def cptL:List (List UInt8)→List (List UInt8)
 | []=>[]
 | [x]=>[x]
 | x::y::l=>if x=y then cptL (y::l)else x::cptL (y::l)
def labs(l:List Fd):List (List UInt8):=l.map (·.lb)
def lsOf(F G:List Fd):List (List UInt8):=cptL (srtL (labs F++labs G))
def fnd(x:List UInt8)(l:List Fd):Option Fd:=l.find? (fun f=>f.lb==x)
def onlyL(F G:List Fd):List (List UInt8)→List Fd
 | []=>[]
 | x::ls=>match fnd x F,fnd x G with
  | some f,none=>f::onlyL F G ls
  | _,_=>onlyL F G ls
mutual
def uni:Nat→Ab→TyT→TyT→Option (Int×Ab)
 | 0,_,_,_=>none
 | n+1,A,x,y =>
  if (ap A.s x).k=1∧(ap A.s y).k=1∧(ap A.s x).v=(ap A.s y).v then some (0,A)
  else if (ap A.s x).k=1 then some (bindA A (ap A.s x).v (ap A.s y))
  else if (ap A.s y).k=1 then some (bindA A (ap A.s y).v (ap A.s x))
  else if (ap A.s x).k≠(ap A.s y).k then some (25,A)
  else match uniL n A (ap A.s x).args (ap A.s y).args with
   | none=>none
   | some (e,A')=>if e≠0 then some (e,A')else if rwd (ap A.s x).k=true then uniR n A' (ap A.s x).fs (ap A.s x).rest (ap A.s y).fs (ap A.s y).rest else some (0,A')
def uniL:Nat→Ab→List TyT→List TyT→Option (Int×Ab)
 | 0,_,_,_=>none
 | n+1,A,x::l,y::m=>match uni n A x y with
  | none=>none
  | some (e,A')=>if e≠0 then some (e,A')else uniL n A' l m
 | _+1,A,_,_=>some (0,A)
def uniR:Nat→Ab→List Fd→Int→List Fd→Int→Option (Int×Ab)
 | 0,_,_,_,_,_=>none
 | n+1,A,F,ra,G,rb =>
  let q:=apRow A.s F ra
  let p:=apRow A.s G rb
  match uniM n A q p (lsOf q.1 p.1)with
  | none=>none
  | some (e,A')=>if e≠0 then some (e,A')
   else if (told A' q.2||told A' p.2)=true then uniR n A' (onlyL q.1 p.1 (lsOf q.1 p.1)) q.2 (onlyL p.1 q.1 (lsOf q.1 p.1)) p.2
   else some (restsA A' q.2 p.2 (onlyL q.1 p.1 (lsOf q.1 p.1)) (onlyL p.1 q.1 (lsOf q.1 p.1)))
def uniM:Nat→Ab→List Fd×Int→List Fd×Int→List (List UInt8)→Option (Int×Ab)
 | 0,_,_,_,_=>none
 | _+1,A,_,_,[]=>some (0,A)
 | n+1,A,q,p,x::ls=>match uniX n A q p x with
  | none=>none
  | some (e,A')=>if e≠0 then some (e,A')else uniM n A' q p ls
def uniX:Nat→Ab→List Fd×Int→List Fd×Int→List UInt8→Option (Int×Ab)
 | 0,_,_,_,_=>none
 | n+1,A,q,p,x=>match fnd x q.1,fnd x p.1 with
  | some f,some g =>
   let r:=presA A (apF A.s f) (apF A.s g)
   if r.1≠0∨(apF A.s f).pr=0∨(apF A.s g).pr=0 then some r else uni n r.2 (apF A.s f).t (apF A.s g).t
  | some f,none=>some (if p.2=0 then absA A f else (0,A))
  | none,some g=>some (if q.2=0 then absA A g else (0,A))
  | none,none=>some (0,A)
end
def Unify(n:Nat)(A:Ab)(a b:TyT)(m:Int):Option (Int×Ab):=
 let A':Ab:=⟨A.s,m,a,b⟩
 if A'.grown≠0 then some (A'.grown,A')else uni n A' a b
mutual
/-- nothing that stands in it is known -/
def FixT(s:Sub):TyT→Prop
 | .mk k v args fs rest=>if k=1 then s.ty v = .var v∧args=[]∧fs=[]∧rest=0 else FixTs s args∧(if rwd k=true then FixFs s fs∧s.rw rest=([],rest)∧nrm fs rest=(fs,rest)else fs=[]∧rest=0)
def FixTs(s:Sub):List TyT→Prop
 | []=>True
 | x::l=>FixT s x∧FixTs s l
def FixFs(s:Sub):List Fd→Prop
 | []=>True
 | f::l=>FixF s f∧FixFs s l
def FixF(s:Sub):Fd→Prop
 | ⟨_,pr,p,t⟩=>if pr=0 then t = .zero else FixT s t∧(pr=2→s.pr p=(2,p))
end
theorem fixTs_iff(s:Sub):∀ l,FixTs s l↔∀ x ∈ l,FixT s x
 | []=>by simp[FixTs]
 | x::l=>by simp[FixTs,fixTs_iff s l]
theorem fixFs_iff(s:Sub):∀ l,FixFs s l↔∀ x ∈ l,FixF s x
 | []=>by simp[FixFs]
 | x::l=>by simp[FixFs,fixFs_iff s l]
theorem fixFs_app{s:Sub}{l m:List Fd}(h:FixFs s l)(k:FixFs s m):FixFs s (l++m):=by
 rw[fixFs_iff] at *
 intro x hx
 rcases List.mem_append.1 hx with h' | h'
 ·exact h x h'
 ·exact k x h'
theorem srt_mem{x:Fd}{l:List Fd}:x ∈ srt l↔x ∈ l:=by
 have key:∀ (m acc:List Fd),x ∈ m.foldl (fun acc f=>insF f acc) acc↔x ∈ m∨x ∈ acc:=by
  intro m
  induction m with
  | nil=>simp
  | cons f m ih=>intro acc;rw[List.foldl_cons,ih,ins_mem,List.mem_cons];exact or_left_comm.trans or_assoc.symm
 rw[srt,key];simp
theorem nrm_mem{x:Fd}{l:List Fd}{r:Int}(h:x ∈ (nrm l r).1):x ∈ l:=by
 unfold nrm at h
 dsimp only at h
 split at h
 ·exact srt_mem.1 (List.mem_filter.1 h).1
 ·exact srt_mem.1 h
theorem nrm_fix{s:Sub}{l:List Fd}{r:Int}(h:FixFs s l):FixFs s (nrm l r).1:=by
 rw[fixFs_iff] at *
 exact fun x hx=>h x (nrm_mem hx)
theorem filter_sd{p:Fd→Bool}{l:List Fd}(h:Sd l):Sd (l.filter p):=h.filter p
theorem nrm_nrm(l:List Fd)(r:Int):nrm (nrm l r).1 (nrm l r).2=nrm l r:=by
 unfold nrm
 dsimp only
 by_cases h:r=0
 ·rw[if_pos h,if_pos h,srt_id (filter_sd (srt_sd l)),List.filter_filter];simp
 ·rw[if_neg h,if_neg h,srt_id (srt_sd l)]
mutual
theorem fix_ap{s:Sub}:∀ {t:TyT},FixT s t→ap s t=t
 | .mk k v args fs rest,h=>by
  rw[FixT] at h
  rw[ap]
  by_cases h1:k=1
  ·rw[if_pos h1] at h
   obtain⟨e,rfl,rfl,rfl⟩:=h
   rw[if_pos h1,e,h1];rfl
  ·rw[if_neg h1] at h
   rw[if_neg h1,fixTs_ap h.1]
   by_cases h2:rwd k=true
   ·rw[if_pos h2] at h
    obtain⟨_,h3,h4,h5⟩:=h
    rw[if_pos h2,fixFs_ap h3,h4]
    dsimp only
    rw[List.append_nil,h5]
   ·rw[if_neg h2] at h
    rw[if_neg h2,h.2.1,h.2.2]
theorem fixTs_ap{s:Sub}:∀ {l:List TyT},FixTs s l→apTs s l=l
 | [],_=>rfl
 | x::l,h=>by rw[FixTs] at h;rw[apTs,fix_ap h.1,fixTs_ap h.2]
theorem fixFs_ap{s:Sub}:∀ {l:List Fd},FixFs s l→apFs s l=l
 | [],_=>rfl
 | x::l,h=>by rw[FixFs] at h;rw[apFs,fixF_ap h.1,fixFs_ap h.2]
theorem fixF_ap{s:Sub}:∀ {f:Fd},FixF s f→apF s f=f
 | ⟨lb,pr,p,t⟩,h=>by
  rw[FixF] at h
  rw[apF]
  by_cases h1:pr=0
  ·rw[if_pos h1] at h
   subst h1 h
   rfl
  ·rw[if_neg h1] at h
   by_cases h2:pr=2
   ·rw[if_pos h2,h.2 h2]
    subst h2
    rw[if_neg (by simp),fix_ap h.1]
   ·rw[if_neg h2,if_neg h1,fix_ap h.1]
end
structure SubOk (s:Sub):Prop where
 ty:∀ v,FixT s (s.ty v)
 pr:∀ p,(s.pr p).1=2→s.pr (s.pr p).2=s.pr p
 rw_:∀ r,FixFs s (s.rw r).1∧s.rw (s.rw r).2=([],(s.rw r).2)
 ok:s.ok
mutual
theorem ap_fix{s:Sub}(hs:SubOk s):∀ t:TyT,FixT s (ap s t)
 | .mk k v args fs rest=>by
  rw[ap]
  by_cases h1:k=1
  ·rw[if_pos h1];exact hs.ty v
  ·rw[if_neg h1]
   by_cases h2:rwd k=true
   ·rw[if_pos h2]
    dsimp only
    rw[FixT,if_neg h1,if_pos h2]
    exact⟨apTs_fix hs args,nrm_fix (fixFs_app (apFs_fix hs fs) (hs.rw_ rest).1),(hs.rw_ rest).2,nrm_nrm _ _⟩
   ·rw[if_neg h2,FixT,if_neg h1,if_neg h2]
    exact⟨apTs_fix hs args,rfl,rfl⟩
theorem apTs_fix{s:Sub}(hs:SubOk s):∀ l:List TyT,FixTs s (apTs s l)
 | []=>trivial
 | x::l=>by rw[apTs,FixTs];exact⟨ap_fix hs x,apTs_fix hs l⟩
theorem apFs_fix{s:Sub}(hs:SubOk s):∀ l:List Fd,FixFs s (apFs s l)
 | []=>trivial
 | x::l=>by rw[apFs,FixFs];exact⟨apF_fix hs x,apFs_fix hs l⟩
theorem apF_fix{s:Sub}(hs:SubOk s):∀ f:Fd,FixF s (apF s f)
 | ⟨lb,pr,p,t⟩=>by
  rw[apF]
  have ih:=ap_fix hs t
  by_cases h1:pr=2
  ·rw[if_pos h1]
   by_cases h2:(s.pr p).1=0
   ·rw[if_pos h2,FixF,if_pos rfl]
   ·rw[if_neg h2,FixF,if_neg h2]
    exact⟨ih,fun h3=>by rw[hs.pr p h3,← h3]⟩
  ·rw[if_neg h1]
   by_cases h2:pr=0
   ·rw[if_pos h2,FixF,if_pos rfl]
   ·rw[if_neg h2,FixF,if_neg h2]
    exact⟨ih,fun h3=>absurd h3 h1⟩
end
theorem ap_ap{s:Sub}(hs:SubOk s)(t:TyT):ap s (ap s t)=ap s t:=fix_ap (ap_fix hs t)
theorem apF_ap{s:Sub}(hs:SubOk s)(t:Fd):apF s (apF s t)=apF s t:=fixF_ap (apF_fix hs t)
def FixR(s:Sub)(q:List Fd×Int):Prop:=FixFs s q.1∧s.rw q.2=([],q.2)∧nrm q.1 q.2=q
theorem apRow_fix{s:Sub}(hs:SubOk s)(F:List Fd)(r:Int):FixR s (apRow s F r):=⟨nrm_fix (fixFs_app (apFs_fix hs F) (hs.rw_ r).1),(hs.rw_ r).2,nrm_nrm _ _⟩
theorem fixR_ap{s:Sub}{q:List Fd×Int}(h:FixR s q):apRow s q.1 q.2=q:=by
 unfold apRow
 rw[fixFs_ap h.1,h.2.1]
 dsimp only
 rw[List.append_nil,h.2.2]
section
variable {s u:Sub}
mutual
theorem fix_cmp(h1:∀ v,s.ty v = .var v→FixT (cmp u s) (u.ty v))(h2:∀ p,s.pr p=(2,p)→(u.pr p).1=2→(cmp u s).pr (u.pr p).2=u.pr p)
  (h3:∀ r,s.rw r=([],r)→FixFs (cmp u s) (u.rw r).1∧(cmp u s).rw (u.rw r).2=([],(u.rw r).2)):∀ {t:TyT},FixT s t→FixT (cmp u s) (ap u t)
 | .mk k v args fs rest,h=>by
  rw[FixT] at h
  rw[ap]
  by_cases k1:k=1
  ·rw[if_pos k1] at h ⊢
   exact h1 v h.1
  ·rw[if_neg k1] at h ⊢
   by_cases k2:rwd k=true
   ·rw[if_pos k2] at h ⊢
    dsimp only
    rw[FixT,if_neg k1,if_pos k2]
    obtain⟨g1,g2,g3,g4⟩:=h
    obtain⟨g5,g6⟩:=h3 rest g3
    exact⟨fixTs_cmp h1 h2 h3 g1,nrm_fix (fixFs_app (fixFs_cmp h1 h2 h3 g2) g5),g6,nrm_nrm _ _⟩
   ·rw[if_neg k2] at h ⊢
    rw[FixT,if_neg k1,if_neg k2]
    exact⟨fixTs_cmp h1 h2 h3 h.1,rfl,rfl⟩
theorem fixTs_cmp(h1:∀ v,s.ty v = .var v→FixT (cmp u s) (u.ty v))(h2:∀ p,s.pr p=(2,p)→(u.pr p).1=2→(cmp u s).pr (u.pr p).2=u.pr p)
  (h3:∀ r,s.rw r=([],r)→FixFs (cmp u s) (u.rw r).1∧(cmp u s).rw (u.rw r).2=([],(u.rw r).2)):∀ {l:List TyT},FixTs s l→FixTs (cmp u s) (apTs u l)
 | [],_=>trivial
 | x::l,h=>by rw[FixTs] at h;rw[apTs,FixTs];exact⟨fix_cmp h1 h2 h3 h.1,fixTs_cmp h1 h2 h3 h.2⟩
theorem fixFs_cmp(h1:∀ v,s.ty v = .var v→FixT (cmp u s) (u.ty v))(h2:∀ p,s.pr p=(2,p)→(u.pr p).1=2→(cmp u s).pr (u.pr p).2=u.pr p)
  (h3:∀ r,s.rw r=([],r)→FixFs (cmp u s) (u.rw r).1∧(cmp u s).rw (u.rw r).2=([],(u.rw r).2)):∀ {l:List Fd},FixFs s l→FixFs (cmp u s) (apFs u l)
 | [],_=>trivial
 | x::l,h=>by rw[FixFs] at h;rw[apFs,FixFs];exact⟨fixF_cmp h1 h2 h3 h.1,fixFs_cmp h1 h2 h3 h.2⟩
theorem fixF_cmp(h1:∀ v,s.ty v = .var v→FixT (cmp u s) (u.ty v))(h2:∀ p,s.pr p=(2,p)→(u.pr p).1=2→(cmp u s).pr (u.pr p).2=u.pr p)
  (h3:∀ r,s.rw r=([],r)→FixFs (cmp u s) (u.rw r).1∧(cmp u s).rw (u.rw r).2=([],(u.rw r).2)):∀ {f:Fd},FixF s f→FixF (cmp u s) (apF u f)
 | ⟨lb,pr,p,t⟩,h=>by
  rw[FixF] at h
  rw[apF]
  by_cases k1:pr=0
  ·rw[if_neg (by omega),if_pos k1,FixF,if_pos rfl]
  ·rw[if_neg k1] at h
   have ih:=fix_cmp h1 h2 h3 h.1
   by_cases k2:pr=2
   ·rw[if_pos k2]
    by_cases k3:(u.pr p).1=0
    ·rw[if_pos k3,FixF,if_pos rfl]
    ·rw[if_neg k3,FixF,if_neg k3]
     exact⟨ih,fun k4=>by rw[h2 p (h.2 k2) k4,← k4]⟩
   ·rw[if_neg k2,if_neg k1,FixF,if_neg k1]
    exact⟨ih,fun k4=>absurd k4 k2⟩
end
theorem subOk_cmp(hs:SubOk s)(hu:u.ok)(h1:∀ v,s.ty v = .var v→FixT (cmp u s) (u.ty v))(h2:∀ p,s.pr p=(2,p)→(u.pr p).1=2→(cmp u s).pr (u.pr p).2=u.pr p)
  (h3:∀ r,s.rw r=([],r)→FixFs (cmp u s) (u.rw r).1∧(cmp u s).rw (u.rw r).2=([],(u.rw r).2)):SubOk (cmp u s) where
 ty:=fun v=>fix_cmp h1 h2 h3 (hs.ty v)
 pr:=fun p hp=>by
  have e:(cmp u s).pr p=if (s.pr p).1=2 then u.pr (s.pr p).2 else s.pr p:=rfl
  rw[e] at hp ⊢
  by_cases k:(s.pr p).1=2
  ·rw[if_pos k] at hp ⊢
   exact h2 _ (by rw[hs.pr p k,← k]) hp
  ·rw[if_neg k] at hp;exact absurd hp k
 rw_:=fun r=>by
  obtain⟨g1,g2⟩:=h3 _ (hs.rw_ r).2
  exact⟨fixFs_app (fixFs_cmp h1 h2 h3 (hs.rw_ r).1) g1,g2⟩
 ok:=by
  show(apFs u (s.rw 0).1++(u.rw (s.rw 0).2).1,(u.rw (s.rw 0).2).2)=([],0)
  rw[hs.ok]
  show(apFs u []++(u.rw 0).1,(u.rw 0).2)=([],0)
  rw[hu];rfl
mutual
theorem fix_keep{v:Int}(h1:∀ x,s.ty x = .var x→x≠v→u.ty x = .var x)(h2:∀ p,s.pr p=(2,p)→u.pr p=(2,p))(h3:∀ r,s.rw r=([],r)→r≠v→u.rw r=([],r)):∀ {t:TyT},FixT s t→occT v t=false→FixT u t
 | .mk k x args fs rest,h,ho=>by
  rw[FixT] at h ⊢
  rw[occT,Bool.or_eq_false_iff,Bool.or_eq_false_iff] at ho
  obtain⟨⟨o1,o2⟩,o3⟩:=ho
  by_cases k1:k=1
  ·rw[if_pos k1] at h ⊢
   refine⟨h1 x h.1 (fun e=>?_),h.2⟩
   subst e k1
   simp at o1
  ·rw[if_neg k1] at h ⊢
   refine⟨fixTs_keep h1 h2 h3 h.1 o2,?_⟩
   by_cases k2:rwd k=true
   ·rw[if_pos k2] at h ⊢
    rw[k2,Bool.true_and,Bool.or_eq_false_iff] at o3
    exact⟨fixFs_keep h1 h2 h3 h.2.1 o3.2,h3 _ h.2.2.1 (by simpa using o3.1),h.2.2.2⟩
   ·rw[if_neg k2] at h ⊢
    exact h.2
theorem fixTs_keep{v:Int}(h1:∀ x,s.ty x = .var x→x≠v→u.ty x = .var x)(h2:∀ p,s.pr p=(2,p)→u.pr p=(2,p))(h3:∀ r,s.rw r=([],r)→r≠v→u.rw r=([],r)):∀ {l:List TyT},FixTs s l→occTs v l=false→FixTs u l
 | [],_,_=>trivial
 | x::l,h,ho=>by
  rw[FixTs] at h ⊢
  rw[occTs,Bool.or_eq_false_iff] at ho
  exact⟨fix_keep h1 h2 h3 h.1 ho.1,fixTs_keep h1 h2 h3 h.2 ho.2⟩
theorem fixFs_keep{v:Int}(h1:∀ x,s.ty x = .var x→x≠v→u.ty x = .var x)(h2:∀ p,s.pr p=(2,p)→u.pr p=(2,p))(h3:∀ r,s.rw r=([],r)→r≠v→u.rw r=([],r)):∀ {l:List Fd},FixFs s l→occFs v l=false→FixFs u l
 | [],_,_=>trivial
 | x::l,h,ho=>by
  rw[FixFs] at h ⊢
  rw[occFs,Bool.or_eq_false_iff] at ho
  exact⟨fixF_keep h1 h2 h3 h.1 ho.1,fixFs_keep h1 h2 h3 h.2 ho.2⟩
theorem fixF_keep{v:Int}(h1:∀ x,s.ty x = .var x→x≠v→u.ty x = .var x)(h2:∀ p,s.pr p=(2,p)→u.pr p=(2,p))(h3:∀ r,s.rw r=([],r)→r≠v→u.rw r=([],r)):∀ {f:Fd},FixF s f→occF v f=false→FixF u f
 | ⟨lb,pr,p,t⟩,h,ho=>by
  rw[FixF] at h ⊢
  by_cases k1:pr=0
  ·rw[if_pos k1] at h ⊢;exact h
  ·rw[if_neg k1] at h ⊢
   rw[occF] at ho
   have:(pr != 0)=true:=by simpa using k1
   rw[this,Bool.true_and] at ho
   exact⟨fix_keep h1 h2 h3 h.1 ho,fun k2=>h2 p (h.2 k2)⟩
end
end
theorem cmp_rw(u s:Sub)(r:Int):(cmp u s).rw r=(apFs u (s.rw r).1++(u.rw (s.rw r).2).1,(u.rw (s.rw r).2).2):=rfl
theorem cmp_pr(u s:Sub)(p:Int):(cmp u s).pr p=if (s.pr p).1=2 then u.pr (s.pr p).2 else s.pr p:=rfl
theorem cmp_ty(u s:Sub)(v:Int):(cmp u s).ty v=ap u (s.ty v):=rfl
theorem ap_var(u:Sub)(v:Int):ap u (.var v)=u.ty v:=by rw[TyT.var,ap,if_pos rfl]
theorem subOk_tyB{s:Sub}(hs:SubOk s){v:Int}{t:TyT}(ht:FixT s t)(ho:occT v t=false):SubOk (cmp (.tyB v t) s):=by
 have q1:∀ x,s.ty x = .var x→x≠v→(cmp (.tyB v t) s).ty x = .var x:=fun x hx hn=>by
  rw[cmp_ty,hx,ap_var];exact if_neg hn
 have q2:∀ p,s.pr p=(2,p)→(cmp (.tyB v t) s).pr p=(2,p):=fun p hp=>by rw[cmp_pr,hp];rfl
 have q3:∀ r,s.rw r=([],r)→(cmp (.tyB v t) s).rw r=([],r):=fun r hr=>by rw[cmp_rw,hr];rfl
 refine subOk_cmp hs rfl (fun x hx=>?_) (fun p hp _=>q2 p hp) (fun r hr=>⟨trivial,q3 r hr⟩)
 by_cases e:x=v
 ·subst e
  have:(Sub.tyB x t).ty x=t:=if_pos rfl
  rw[this]
  exact fix_keep q1 q2 (fun r hr _=>q3 r hr) ht ho
 ·have:(Sub.tyB v t).ty x = .var x:=if_neg e
  rw[this,TyT.var,FixT,if_pos rfl]
  exact⟨q1 x hx e,rfl,rfl,rfl⟩
theorem subOk_rwB{s:Sub}(hs:SubOk s){v:Int}{q:List Fd×Int}(hv:v≠0)(ht:FixR s q)(ho:occR v q=false):SubOk (cmp (.rwB v q) s):=by
 have q1:∀ x,s.ty x = .var x→(cmp (.rwB v q) s).ty x = .var x:=fun x hx=>by
  rw[cmp_ty,hx,ap_var];rfl
 have q2:∀ p,s.pr p=(2,p)→(cmp (.rwB v q) s).pr p=(2,p):=fun p hp=>by rw[cmp_pr,hp];rfl
 have q3:∀ r,s.rw r=([],r)→r≠v→(cmp (.rwB v q) s).rw r=([],r):=fun r hr hn=>by
  rw[cmp_rw,hr]
  have:(Sub.rwB v q).rw r=([],r):=if_neg hn
  dsimp only
  rw[this];rfl
 rw[occR,Bool.or_eq_false_iff] at ho
 refine subOk_cmp hs (if_neg (Ne.symm hv)) (fun x hx=>?_) (fun p hp _=>q2 p hp) (fun r hr=>?_)
 ·show FixT _ (.var x)
  rw[TyT.var,FixT,if_pos rfl]
  exact⟨q1 x hx,rfl,rfl,rfl⟩
 ·by_cases e:r=v
  ·subst e
   have:(Sub.rwB r q).rw r=q:=if_pos rfl
   rw[this]
   exact⟨fixFs_keep (fun x hx _=>q1 x hx) q2 q3 ht.1 ho.2,q3 _ ht.2.1 (by simpa using ho.1)⟩
  ·have:(Sub.rwB v q).rw r=([],r):=if_neg e
   rw[this]
   exact⟨trivial,q3 r hr e⟩
theorem subOk_prB{s:Sub}(hs:SubOk s){v:Int}{q:Int×Int}(hq:q.1=2→q.2≠v∧s.pr q.2=(2,q.2)):SubOk (cmp (.prB v q) s):=by
 have q2:∀ p,s.pr p=(2,p)→p≠v→(cmp (.prB v q) s).pr p=(2,p):=fun p hp hn=>by
  rw[cmp_pr,hp];exact if_neg hn
 refine subOk_cmp hs rfl (fun x hx=>?_) (fun p hp h2=>?_) (fun r hr=>⟨trivial,?_⟩)
 ·show FixT _ (.var x)
  rw[TyT.var,FixT,if_pos rfl]
  exact⟨by rw[cmp_ty,hx,ap_var];rfl,rfl,rfl,rfl⟩
 ·by_cases e:p=v
  ·subst e
   have:(Sub.prB p q).pr p=q:=if_pos rfl
   rw[this] at h2 ⊢
   rw[q2 _ (hq h2).2 (hq h2).1,← h2]
  ·have:(Sub.prB v q).pr p=(2,p):=if_neg e
   rw[this]
   exact q2 p hp e
 ·show(cmp (.prB v q) s).rw r=([],r)
  rw[cmp_rw,hr];rfl
theorem subOk_one:SubOk .one:=⟨fun v=>by show FixT _ (.var v);rw[TyT.var,FixT,if_pos rfl];exact⟨rfl,rfl,rfl,rfl⟩,fun _ _=>rfl,fun _=>⟨trivial,rfl⟩,rfl⟩
inductive Role where
 | no
 | ty
 | pr
 | rw (k:Int) (ls:List (List UInt8))
abbrev Ctx:=Int→Role
abbrev Ri (l:List (List UInt8)):Prop:=l.Pairwise (fun a b=>ltB a b=true)
def argN(k:Int):Option Nat:=if 1≤k∧k≤6∨k=10∨k=11 then some 0 else if k=8∨k=9 then some 1 else if k=7 then some 2 else none
def EndR(G:Ctx)(k:Int)(P:List UInt8→Prop)(r:Int):Prop:=r=0∨1≤r∧∃ L,G r = .rw k L∧Ri L∧∀ x,x ∈ L↔P x
def RowOk(G:Ctx)(k:Int)(C:List UInt8→Prop)(fs:List Fd)(r:Int):Prop :=
 Ri (labs fs)∧(∀ f ∈ fs,f.lb≠[]∧¬ C f.lb∧(f.pr=0→r≠0))∧EndR G k (fun x=>C x∨x ∈ labs fs) r
mutual
def WfT(G:Ctx):TyT→Prop
 | .mk k v args fs rest=>argN k=some args.length∧(k=1→1≤v∧G v = .ty)∧(k≠1→v=0)∧WfTs G args∧WfFs G fs∧(if rwd k=true then RowOk G k (fun _=>False) fs rest else fs=[]∧rest=0)
def WfTs(G:Ctx):List TyT→Prop
 | []=>True
 | x::l=>WfT G x∧WfTs G l
def WfFs(G:Ctx):List Fd→Prop
 | []=>True
 | f::l=>WfF G f∧WfFs G l
def WfF(G:Ctx):Fd→Prop
 | ⟨_,pr,p,t⟩=>(pr=0∧p=0∧t = .zero)∨(pr=1∧p=0∧WfT G t)∨(pr=2∧1≤p∧G p = .pr∧WfT G t)
end
theorem wfTs_iff(G:Ctx):∀ l,WfTs G l↔∀ x ∈ l,WfT G x
 | []=>by simp[WfTs]
 | x::l=>by simp[WfTs,wfTs_iff G l]
theorem wfFs_iff(G:Ctx):∀ l,WfFs G l↔∀ x ∈ l,WfF G x
 | []=>by simp[WfFs]
 | x::l=>by simp[WfFs,wfFs_iff G l]
theorem wfFs_app{G:Ctx}{l m:List Fd}(h:WfFs G l)(k:WfFs G m):WfFs G (l++m):=by
 rw[wfFs_iff] at *
 intro x hx
 rcases List.mem_append.1 hx with h' | h'
 ·exact h x h'
 ·exact k x h'
structure SubWf (G:Ctx)(s:Sub):Prop where
 ty:∀ v,G v = .ty→WfT G (s.ty v)
 pr:∀ p,G p = .pr→(s.pr p=(0,0)∨s.pr p=(1,0)∨((s.pr p).1=2∧1≤(s.pr p).2∧G (s.pr p).2 = .pr))
 rw_:∀ r k L,G r = .rw k L→WfFs G (s.rw r).1∧(labs (s.rw r).1).Nodup∧(∀ f ∈ (s.rw r).1,f.lb≠[]∧f.lb ∉ L)∧EndR G k (fun x=>x ∈ L∨x ∈ labs (s.rw r).1) (s.rw r).2
 ok:s.ok
theorem ri_nodup{l:List (List UInt8)}(h:Ri l):l.Nodup:=h.imp (fun{a b} hab e=>by subst e;rw[ltB_irrefl] at hab;cases hab)
theorem labs_mem{x:List UInt8}{l:List Fd}:x ∈ labs l↔∃ f ∈ l,f.lb=x:=by simp[labs]
theorem labs_app(l m:List Fd):labs (l++m)=labs l++labs m:=by simp[labs]
theorem labs_apFs(s:Sub)(l:List Fd):labs (apFs s l)=labs l:=by
 rw[apFs_map,labs,labs,List.map_map]
 exact List.map_congr_left (fun f _=>apF_lb s f)
theorem ins_perm(f:Fd):∀ l,(insF f l).Perm (f::l)
 | [] => .refl _
 | g::l=>by
  rw[insF];split
  ·exact .refl _
  ·exact((ins_perm f l).cons g).trans (.swap f g l)
theorem srt_perm(l:List Fd):(srt l).Perm l:=by
 have key:∀ (m acc:List Fd),(m.foldl (fun acc f=>insF f acc) acc).Perm (acc++m):=by
  intro m
  induction m with
  | nil=>intro acc;simp
  | cons f m ih =>
   intro acc
   rw[List.foldl_cons]
   refine(ih _).trans (((ins_perm f acc).append_right m).trans ?_)
   exact(List.perm_middle (l₁:=acc) (l₂:=m) (a:=f)).symm
 exact key l []
theorem sd_ri{l:List Fd}(h:Sd l)(hn:(labs l).Nodup):Ri (labs l):=by
 induction l with
 | nil=>exact .nil
 | cons f l ih =>
  have h':=List.pairwise_cons.1 h
  have hn':=List.nodup_cons.1 (show(f.lb::labs l).Nodup from hn)
  refine List.pairwise_cons.2 ⟨fun x hx=>?_,ih h'.2 hn'.2⟩
  obtain⟨g,hg,rfl⟩:=labs_mem.1 hx
  have hle:ltB g.lb f.lb=false:=h'.1 g hg
  cases e:ltB f.lb g.lb
  ·exact absurd (ltB_tri _ _ e hle ▸ hx) hn'.1
  ·rfl
theorem nrm_ri{l:List Fd}(r:Int)(hn:(labs l).Nodup):Ri (labs (nrm l r).1):=by
 have h1:(labs (srt l)).Nodup:=(List.Perm.map _ (srt_perm l)).nodup_iff.2 hn
 have h2:=sd_ri (srt_sd l) h1
 unfold nrm
 dsimp only
 split
 ·exact h2.sublist (List.Sublist.map _ List.filter_sublist)
 ·exact h2
theorem nrm_labs{l:List Fd}{r:Int}(hr:r≠0)(x:List UInt8):x ∈ labs (nrm l r).1↔x ∈ labs l:=by
 unfold nrm
 dsimp only
 rw[if_neg hr]
 exact(List.Perm.map _ (srt_perm l)).mem_iff
theorem nrm_here{l:List Fd}{r:Int}{f:Fd}(hf:f ∈ (nrm l r).1)(h:f.pr=0):r≠0:=by
 rintro rfl
 have:=(List.mem_filter.1 (show f ∈ (srt l).filter here from hf)).2
 simp[here,h] at this
theorem EndR.mono{G:Ctx}{k:Int}{P P':List UInt8→Prop}{r:Int}(h:EndR G k P r)(hP:∀ x,P x↔P' x):EndR G k P' r:=by
 rcases h with h|⟨h1,L,h2,h3,h4⟩
 ·exact .inl h
 ·exact .inr ⟨h1,L,h2,h3,fun x=>(h4 x).trans (hP x)⟩
mutual
theorem ap_wf{G:Ctx}{s:Sub}(hs:SubWf G s):∀ {t:TyT},WfT G t→WfT G (ap s t)
 | .mk k v args fs rest,h=>by
  rw[WfT] at h
  obtain⟨h1,h2,h3,h4,h5,h6⟩:=h
  rw[ap]
  by_cases k1:k=1
  ·rw[if_pos k1];exact hs.ty v (h2 k1).2
  ·rw[if_neg k1]
   by_cases k2:rwd k=true
   ·rw[if_pos k2] at h6
    rw[if_pos k2]
    dsimp only
    rw[WfT]
    have hR:=apRow_wf hs h5 h6
    refine⟨by rw[h1,apTs_map];simp,fun e=>absurd e k1,h3,apTs_wf hs h4,hR.1,?_⟩
    rw[if_pos k2];exact hR.2
   ·rw[if_neg k2,WfT,if_neg k2]
    exact⟨by rw[h1,apTs_map];simp,fun e=>absurd e k1,h3,apTs_wf hs h4,trivial,rfl,rfl⟩
theorem apTs_wf{G:Ctx}{s:Sub}(hs:SubWf G s):∀ {l:List TyT},WfTs G l→WfTs G (apTs s l)
 | [],_=>trivial
 | x::l,h=>by rw[WfTs] at h;rw[apTs,WfTs];exact⟨ap_wf hs h.1,apTs_wf hs h.2⟩
theorem apFs_wf{G:Ctx}{s:Sub}(hs:SubWf G s):∀ {l:List Fd},WfFs G l→WfFs G (apFs s l)
 | [],_=>trivial
 | x::l,h=>by rw[WfFs] at h;rw[apFs,WfFs];exact⟨apF_wf hs h.1,apFs_wf hs h.2⟩
theorem apF_wf{G:Ctx}{s:Sub}(hs:SubWf G s):∀ {f:Fd},WfF G f→WfF G (apF s f)
 | ⟨lb,pr,p,t⟩,h=>by
  rw[WfF] at h
  rw[apF]
  rcases h with⟨rfl,rfl,rfl⟩| ⟨rfl,rfl,ht⟩| ⟨rfl,hp,hg,ht⟩
  ·rw[if_neg (by decide),if_pos rfl,WfF];exact .inl ⟨rfl,rfl,rfl⟩
  ·rw[if_neg (by decide),if_neg (by decide),WfF];exact .inr (.inl ⟨rfl,rfl,ap_wf hs ht⟩)
  ·rw[if_pos rfl]
   have ih:=ap_wf hs ht
   rcases hs.pr p hg with e|e|⟨e,e1,e2⟩
   ·rw[e,if_pos rfl,WfF];exact .inl ⟨rfl,rfl,rfl⟩
   ·rw[e,if_neg (by decide),WfF];exact .inr (.inl ⟨rfl,rfl,ih⟩)
   ·rw[e,if_neg (by decide),WfF];exact .inr (.inr ⟨rfl,e1,e2,ih⟩)
theorem apRow_wf{G:Ctx}{s:Sub}(hs:SubWf G s){k:Int}{C:List UInt8→Prop}:∀ {fs:List Fd}{r:Int},WfFs G fs→RowOk G k C fs r→WfFs G (apRow s fs r).1∧RowOk G k C (apRow s fs r).1 (apRow s fs r).2
 | fs,r,h,⟨h1,h2,h3⟩=>by
  have hw:=apFs_wf hs h
  have hk:WfFs G (s.rw r).1∧(labs (s.rw r).1).Nodup∧(∀ f ∈ (s.rw r).1,f.lb≠[]∧¬ C f.lb∧f.lb ∉ labs fs)∧EndR G k (fun x=>(C x∨x ∈ labs fs)∨x ∈ labs (s.rw r).1) (s.rw r).2:=by
   rcases h3 with e|⟨_,L,e1,e2,e3⟩
   ·subst e
    rw[hs.ok]
    exact⟨trivial,List.nodup_nil,(fun f hf=>by cases hf),.inl rfl⟩
   ·obtain⟨g1,g2,g3,g4⟩:=hs.rw_ r k L e1
    exact⟨g1,g2,fun f hf=>⟨(g3 f hf).1,fun hc=>(g3 f hf).2 ((e3 _).2 (.inl hc)),fun hc=>(g3 f hf).2 ((e3 _).2 (.inr hc))⟩,g4.mono (fun x=>by rw[e3 x])⟩
  obtain⟨g1,g2,g3,g4⟩:=hk
  have hall:WfFs G (apFs s fs++(s.rw r).1):=wfFs_app hw g1
  have hnd:(labs (apFs s fs++(s.rw r).1)).Nodup:=by
   rw[labs_app,labs_apFs,List.nodup_append]
   refine⟨ri_nodup h1,g2,fun a ha b hb e=>?_⟩
   subst e
   obtain⟨f,hf,rfl⟩:=labs_mem.1 hb
   exact(g3 f hf).2.2 ha
  refine⟨(wfFs_iff G _).2 (fun f hf=>(wfFs_iff G _).1 hall f (nrm_mem hf)),nrm_ri _ hnd,fun f hf=>?_,?_⟩
  ·have hl:f.lb ∈ labs fs∨f ∈ (s.rw r).1:=by
    rcases List.mem_append.1 (nrm_mem hf)with hf|hf
    ·left;rw[← labs_apFs s fs];exact labs_mem.2 ⟨f,hf,rfl⟩
    ·exact .inr hf
   refine⟨?_,?_,fun e=>nrm_here hf e⟩
   ·rcases hl with hl|hl
    ·obtain⟨g,hg,e⟩:=labs_mem.1 hl
     rw[← e];exact(h2 g hg).1
    ·exact(g3 f hl).1
   ·rcases hl with hl|hl
    ·obtain⟨g,hg,e⟩:=labs_mem.1 hl
     rw[← e];exact(h2 g hg).2.1
    ·exact(g3 f hl).2.1
  ·show EndR G k _ (s.rw r).2
   by_cases e:(s.rw r).2=0
   ·exact .inl e
   ·refine g4.mono (fun x=>?_)
    have:x ∈ labs (nrm (apFs s fs++(s.rw r).1) (s.rw r).2).1↔x ∈ labs fs∨x ∈ labs (s.rw r).1:=by rw[nrm_labs e,labs_app,labs_apFs,List.mem_append]
    rw[show(apRow s fs r).1=(nrm (apFs s fs++(s.rw r).1) (s.rw r).2).1 from rfl,this]
    exact or_assoc
end
theorem subWf_cmp{G:Ctx}{s u:Sub}(hs:SubWf G s)(hu:SubWf G u):SubWf G (cmp u s) where
 ty:=fun v hv=>ap_wf hu (hs.ty v hv)
 pr:=fun p hp=>by
  rw[cmp_pr]
  rcases hs.pr p hp with e|e|⟨e,e1,e2⟩
  ·rw[e];exact .inl rfl
  ·rw[e];exact .inr (.inl rfl)
  ·rw[if_pos e];exact hu.pr _ e2
 rw_:=fun r k L hr=>by
  obtain⟨g1,g2,g3,g4⟩:=hs.rw_ r k L hr
  rw[cmp_rw]
  dsimp only
  have hk:WfFs G (u.rw (s.rw r).2).1∧(labs (u.rw (s.rw r).2).1).Nodup∧(∀ f ∈ (u.rw (s.rw r).2).1,f.lb≠[]∧f.lb ∉ L∧f.lb ∉ labs (s.rw r).1)∧EndR G k (fun x=>(x ∈ L∨x ∈ labs (s.rw r).1)∨x ∈ labs (u.rw (s.rw r).2).1) (u.rw (s.rw r).2).2:=by
   rcases g4 with e|⟨_,L',e1,e2,e3⟩
   ·rw[e,hu.ok]
    exact⟨trivial,List.nodup_nil,(fun f hf=>by cases hf),.inl rfl⟩
   ·obtain⟨q1,q2,q3,q4⟩:=hu.rw_ _ k L' e1
    exact⟨q1,q2,fun f hf=>⟨(q3 f hf).1,fun hc=>(q3 f hf).2 ((e3 _).2 (.inl hc)),fun hc=>(q3 f hf).2 ((e3 _).2 (.inr hc))⟩,q4.mono (fun x=>by rw[e3 x])⟩
  obtain⟨q1,q2,q3,q4⟩:=hk
  refine⟨wfFs_app (apFs_wf hu g1) q1,?_,fun f hf=>?_,q4.mono (fun x=>?_)⟩
  ·rw[labs_app,labs_apFs,List.nodup_append]
   refine⟨g2,q2,fun a ha b hb e=>?_⟩
   subst e
   obtain⟨f,hf,rfl⟩:=labs_mem.1 hb
   exact(q3 f hf).2.2 ha
  ·rcases List.mem_append.1 hf with hf|hf
   ·have:f.lb ∈ labs (s.rw r).1:=by rw[← labs_apFs u (s.rw r).1];exact labs_mem.2 ⟨f,hf,rfl⟩
    obtain⟨g,hg,e⟩:=labs_mem.1 this
    rw[← e];exact g3 g hg
   ·exact⟨(q3 f hf).1,(q3 f hf).2.1⟩
  ·rw[labs_app,labs_apFs,List.mem_append];exact or_assoc
 ok:=by
  show(apFs u (s.rw 0).1++(u.rw (s.rw 0).2).1,(u.rw (s.rw 0).2).2)=([],0)
  rw[hs.ok]
  show(apFs u []++(u.rw 0).1,(u.rw 0).2)=([],0)
  rw[hu.ok];rfl
def Pos(G:Ctx):Prop:=∀ v,G v≠.no→1≤v
theorem wf_var{G:Ctx}(hG:Pos G){v:Int}(h:G v = .ty):WfT G (.var v):=by
 rw[TyT.var,WfT,if_neg (by decide)]
 exact⟨rfl,fun _=>⟨hG v (by rw[h];simp),h⟩,fun e=>absurd rfl e,trivial,trivial,rfl,rfl⟩
def Rise(G:Ctx):Prop:=∀ v k L,G v = .rw k L→Ri L
theorem end_self{G:Ctx}(hG:Pos G)(hR:Rise G){r k:Int}{L:List (List UInt8)}(h:G r = .rw k L):EndR G k (fun x=>x ∈ L∨x ∈ labs []) r :=
 .inr ⟨hG r (by rw[h];simp),L,h,hR r k L h,fun x=>by simp[labs]⟩
theorem subWf_one{G:Ctx}(hG:Pos G)(hR:Rise G):SubWf G .one where
 ty:=fun v hv=>wf_var hG hv
 pr:=fun p hp => .inr (.inr ⟨rfl,hG p (by rw[hp];simp),hp⟩)
 rw_:=fun r k L hr=>⟨trivial,List.nodup_nil,(fun f hf=>by cases hf),end_self hG hR hr⟩
 ok:=rfl
theorem subWf_tyB{G:Ctx}(hG:Pos G)(hR:Rise G){v:Int}{t:TyT}(ht:WfT G t):SubWf G (.tyB v t) where
 ty:=fun u hu=>by
  show WfT G (if u=v then t else .var u)
  split
  ·exact ht
  ·exact wf_var hG hu
 pr:=fun p hp => .inr (.inr ⟨rfl,hG p (by rw[hp];simp),hp⟩)
 rw_:=fun r k L hr=>⟨trivial,List.nodup_nil,(fun f hf=>by cases hf),end_self hG hR hr⟩
 ok:=rfl
theorem subWf_prB{G:Ctx}(hG:Pos G)(hR:Rise G){v:Int}{q:Int×Int}(hq:q=(0,0)∨q=(1,0)∨(q.1=2∧1≤q.2∧G q.2 = .pr)):SubWf G (.prB v q) where
 ty:=fun u hu=>wf_var hG hu
 pr:=fun p hp=>by
  show(if p=v then q else (2,p))=(0,0)∨_
  have e:(Sub.prB v q).pr p=if p=v then q else (2,p):=rfl
  rw[e]
  split
  ·exact hq
  ·exact .inr (.inr ⟨rfl,hG p (by rw[hp];simp),hp⟩)
 rw_:=fun r k L hr=>⟨trivial,List.nodup_nil,(fun f hf=>by cases hf),end_self hG hR hr⟩
 ok:=rfl
theorem subWf_rwB{G:Ctx}(hG:Pos G)(hR:Rise G){v k:Int}{L:List (List UInt8)}{q:List Fd×Int}(hv:G v = .rw k L)(hw:WfFs G q.1)(hq:RowOk G k (· ∈ L) q.1 q.2):SubWf G (.rwB v q) where
 ty:=fun u hu=>wf_var hG hu
 pr:=fun p hp => .inr (.inr ⟨rfl,hG p (by rw[hp];simp),hp⟩)
 rw_:=fun r k' L' hr=>by
  have e:(Sub.rwB v q).rw r=if r=v then q else ([],r):=rfl
  rw[e]
  by_cases h:r=v
  ·subst h
   rw[hv] at hr
   cases hr
   rw[if_pos rfl]
   exact⟨hw,ri_nodup hq.1,fun f hf=>⟨(hq.2.1 f hf).1,(hq.2.1 f hf).2.1⟩,hq.2.2⟩
  ·rw[if_neg h]
   exact⟨trivial,List.nodup_nil,(fun f hf=>by cases hf),end_self hG hR hr⟩
 ok:=by
  have h0:(0:Int)≠v:=fun e=>by have:=hG v (by rw[hv];simp);omega
  exact if_neg h0
theorem insL_mem(f x:List UInt8):∀ l,x ∈ insL f l↔x=f∨x ∈ l
 | []=>by simp[insL]
 | g::l=>by
  rw[insL];split
  ·simp
  ·rw[List.mem_cons,insL_mem f x l,List.mem_cons];exact or_left_comm
abbrev Lo (l:List (List UInt8)):Prop:=l.Pairwise (fun a b=>ltB b a=false)
theorem insL_lo(f:List UInt8):∀ l,Lo l→Lo (insL f l)
 | [],_=>by simp[insL]
 | g::l,h=>by
  have h':=List.pairwise_cons.1 h
  rw[insL];split
  ·rename_i hlt
   exact List.pairwise_cons.2 ⟨fun x hx=>by
    rcases List.mem_cons.1 hx with rfl|hx
    ·exact ltB_asym hlt
    ·exact leB_trans (ltB_asym hlt) (h'.1 x hx),h⟩
  ·rename_i hlt
   exact List.pairwise_cons.2 ⟨fun x hx=>by
    rcases(insL_mem f x l).1 hx with rfl|hx
    ·simpa using hlt
    ·exact h'.1 x hx,insL_lo f l h'.2⟩
theorem srtL_lo(l:List (List UInt8)):Lo (srtL l):=by
 have key:∀ (m acc:List (List UInt8)),Lo acc→Lo (m.foldl (fun acc f=>insL f acc) acc):=by
  intro m
  induction m with
  | nil=>intro acc h;exact h
  | cons f m ih=>intro acc h;exact ih _ (insL_lo f acc h)
 exact key l [] .nil
theorem srtL_mem{x:List UInt8}{l:List (List UInt8)}:x ∈ srtL l↔x ∈ l:=by
 have key:∀ (m acc:List (List UInt8)),x ∈ m.foldl (fun acc f=>insL f acc) acc↔x ∈ m∨x ∈ acc:=by
  intro m
  induction m with
  | nil=>simp
  | cons f m ih=>intro acc;rw[List.foldl_cons,ih,insL_mem,List.mem_cons];exact or_left_comm.trans or_assoc.symm
 rw[srtL,key];simp
theorem cptL_mem{x:List UInt8}:∀ {l:List (List UInt8)},x ∈ cptL l↔x ∈ l
 | []=>by simp[cptL]
 | [a]=>by simp[cptL]
 | a::b::l=>by
  rw[cptL];split
  ·rename_i e;subst e;rw[cptL_mem (l:=a::l)];simp
  ·rw[List.mem_cons,cptL_mem (l:=b::l),← List.mem_cons]
theorem cptL_ri:∀ {l:List (List UInt8)},Lo l→Ri (cptL l)
 | [],_ => .nil
 | [a],_=>by simp[cptL]
 | a::b::l,h=>by
  have h':=List.pairwise_cons.1 h
  rw[cptL];split
  ·exact cptL_ri h'.2
  ·rename_i hne
   have h2:=List.pairwise_cons.1 h'.2
   have hab:ltB a b=true:=by
    cases e:ltB a b
    ·exact absurd (ltB_tri a b e (h'.1 b (by simp))) hne
    ·rfl
   refine List.pairwise_cons.2 ⟨fun x hx=>?_,cptL_ri h'.2⟩
   rcases List.mem_cons.1 (cptL_mem.1 hx)with rfl|hx
   ·exact hab
   ·exact ltB_le hab (h2.1 x hx)
def mrgL(l m:List (List UInt8)):List (List UInt8):=cptL (srtL (l++m))
theorem mrgL_mem{x:List UInt8}{l m:List (List UInt8)}:x ∈ mrgL l m↔x ∈ l∨x ∈ m:=by rw[mrgL,cptL_mem,srtL_mem,List.mem_append]
theorem mrgL_ri(l m:List (List UInt8)):Ri (mrgL l m):=cptL_ri (srtL_lo _)
theorem lsOf_mem{x:List UInt8}{F G:List Fd}:x ∈ lsOf F G↔x ∈ labs F∨x ∈ labs G:=mrgL_mem
theorem lsOf_ri(F G:List Fd):Ri (lsOf F G):=mrgL_ri _ _
theorem fnd_some{x:List UInt8}{l:List Fd}{f:Fd}(h:fnd x l=some f):f ∈ l∧f.lb=x:=⟨List.mem_of_find?_eq_some h,by simpa using List.find?_some h⟩
theorem fnd_none{x:List UInt8}{l:List Fd}:fnd x l=none↔x ∉ labs l:=by
 unfold fnd
 rw[List.find?_eq_none,labs]
 simp
theorem fnd_of{l:List Fd}(hn:(labs l).Nodup){f:Fd}(hf:f ∈ l):fnd f.lb l=some f:=by
 induction l with
 | nil=>cases hf
 | cons g l ih =>
  have hn':=List.nodup_cons.1 (show(g.lb::labs l).Nodup from hn)
  unfold fnd
  rw[List.find?_cons]
  rcases List.mem_cons.1 hf with rfl|hf
  ·simp
  ·have:(g.lb==f.lb)=false:=by
    rw[beq_eq_false_iff_ne];intro e
    exact hn'.1 (e ▸ labs_mem.2 ⟨f,hf,rfl⟩)
   rw[this];exact ih hn'.2 hf
def bothL(F G:List Fd):List (List UInt8)→List Fd
 | []=>[]
 | x::ls=>match fnd x F,fnd x G with
  | some f,some _=>f::bothL F G ls
  | _,_=>bothL F G ls
theorem onlyL_mem{F G:List Fd}{f:Fd}:∀ {ls:List (List UInt8)},f ∈ onlyL F G ls→f.lb ∈ ls∧f ∈ F∧f.lb ∉ labs G
 | [],h=>by cases h
 | x::ls,h=>by
  rw[onlyL] at h
  split at h
  ·rename_i g h1 h2
   rcases List.mem_cons.1 h with rfl|h
   ·obtain⟨e1,e2⟩:=fnd_some h1
    exact⟨by rw[e2];simp,e1,by rw[e2];exact fnd_none.1 h2⟩
   ·obtain⟨e1,e2⟩:=onlyL_mem h
    exact⟨by simp[e1],e2⟩
  ·obtain⟨e1,e2⟩:=onlyL_mem h
   exact⟨by simp[e1],e2⟩
theorem bothL_mem{F G:List Fd}{f:Fd}:∀ {ls:List (List UInt8)},f ∈ bothL F G ls→f.lb ∈ ls∧f ∈ F∧f.lb ∈ labs G
 | [],h=>by cases h
 | x::ls,h=>by
  rw[bothL] at h
  split at h
  ·rename_i g g' h1 h2
   rcases List.mem_cons.1 h with rfl|h
   ·obtain⟨e1,e2⟩:=fnd_some h1
    obtain⟨e3,e4⟩:=fnd_some h2
    exact⟨by rw[e2];simp,e1,by rw[e2,← e4];exact labs_mem.2 ⟨_,e3,rfl⟩⟩
   ·obtain⟨e1,e2⟩:=bothL_mem h
    exact⟨by simp[e1],e2⟩
  ·obtain⟨e1,e2⟩:=bothL_mem h
   exact⟨by simp[e1],e2⟩
theorem only_both_in{F G:List Fd}(hn:(labs F).Nodup){f:Fd}(hf:f ∈ F):∀ {ls:List (List UInt8)},f.lb ∈ ls→if f.lb ∈ labs G then f ∈ bothL F G ls else f ∈ onlyL F G ls
 | [],h=>by cases h
 | x::ls,h=>by
  by_cases e:f.lb=x
  ·have h1:fnd x F=some f:=by rw[← e];exact fnd_of hn hf
   split
   ·rename_i hg
    rw[bothL,h1]
    obtain⟨g,hg⟩:∃ g,fnd x G=some g:=by
     cases h2:fnd x G with
     | none=>exact absurd (e ▸ hg) (fnd_none.1 h2)
     | some g=>exact⟨g,rfl⟩
    rw[hg];simp
   ·rename_i hg
    have h2:fnd x G=none:=fnd_none.2 (e ▸ hg)
    rw[onlyL,h1,h2];simp
  ·have ih:=only_both_in (G:=G) hn hf (ls:=ls) (by rcases List.mem_cons.1 h with h|h;exact absurd h e;exact h)
   split at ih
   ·rename_i hg
    rw[if_pos hg,bothL]
    split
    ·exact List.mem_cons_of_mem _ ih
    ·exact ih
   ·rename_i hg
    rw[if_neg hg,onlyL]
    split
    ·exact List.mem_cons_of_mem _ ih
    ·exact ih
theorem onlyL_sub(F G:List Fd):∀ ls:List (List UInt8),(labs (onlyL F G ls)).Sublist ls
 | [] => .slnil
 | x::ls=>by
  rw[onlyL]
  split
  ·rename_i f h1 h2
   show(f.lb::labs (onlyL F G ls)).Sublist (x::ls)
   rw[(fnd_some h1).2]
   exact(onlyL_sub F G ls).cons_cons x
  ·exact(onlyL_sub F G ls).cons x
theorem bothL_sub(F G:List Fd):∀ ls:List (List UInt8),(labs (bothL F G ls)).Sublist ls
 | [] => .slnil
 | x::ls=>by
  rw[bothL]
  split
  ·rename_i f g h1 h2
   show(f.lb::labs (bothL F G ls)).Sublist (x::ls)
   rw[(fnd_some h1).2]
   exact(bothL_sub F G ls).cons_cons x
  ·exact(bothL_sub F G ls).cons x
theorem nodup_of_labs{l:List Fd}(h:(labs l).Nodup):l.Nodup:=(List.pairwise_map.1 h).imp (fun{a b} hab e=>hab (by rw[e]))
theorem perm_of_mem{l m:List Fd}(hl:l.Nodup)(hm:m.Nodup)(h:∀ x,x ∈ l↔x ∈ m):l.Perm m:=(List.perm_ext_iff_of_nodup hl hm).2 h
theorem split_perm{F G:List Fd}{ls:List (List UInt8)}(hn:(labs F).Nodup)(hls:ls.Nodup)(h:∀ x ∈ labs F,x ∈ ls):F.Perm (bothL F G ls++onlyL F G ls):=by
 have h1:(labs (bothL F G ls++onlyL F G ls)).Nodup:=by
  rw[labs_app,List.nodup_append]
  refine⟨hls.sublist (bothL_sub F G ls),hls.sublist (onlyL_sub F G ls),fun a ha b hb e=>?_⟩
  subst e
  obtain⟨f,hf,rfl⟩:=labs_mem.1 ha
  obtain⟨g,hg,e⟩:=labs_mem.1 hb
  have:=(onlyL_mem hg).2.2
  rw[e] at this
  exact this (bothL_mem hf).2.2
 refine perm_of_mem (nodup_of_labs hn) (nodup_of_labs h1) (fun f=>⟨fun hf=>?_,fun hf=>?_⟩)
 ·have:=only_both_in (G:=G) hn hf (h f.lb (labs_mem.2 ⟨f,hf,rfl⟩))
  rw[List.mem_append]
  split at this
  ·exact .inl this
  ·exact .inr this
 ·rcases List.mem_append.1 hf with hf|hf
  ·exact(bothL_mem hf).2.1
  ·exact(onlyL_mem hf).2.1
theorem sd_eq:∀ {l m:List Fd},Sd l→Sd m→l.Perm m→(labs l).Nodup→l=m
 | [],m,_,_,h,_=>by rw[List.nil_perm.1 h]
 | f::l,m,hl,hm,h,hn=>by
  have hn':=List.nodup_cons.1 (show(f.lb::labs l).Nodup from hn)
  cases m with
  | nil=>exact absurd h.symm (by intro h;have:=List.nil_perm.1 h;cases this)
  | cons g m =>
   have hl':=List.pairwise_cons.1 hl
   have hm':=List.pairwise_cons.1 hm
   have e:f=g:=by
    have h1:g ∈ f::l:=h.mem_iff.2 (by simp)
    have h2:f ∈ g::m:=h.mem_iff.1 (by simp)
    rcases List.mem_cons.1 h1 with h1|h1
    ·exact h1.symm
    ·rcases List.mem_cons.1 h2 with h2|h2
     ·exact h2
     ·have e:=ltB_tri _ _ (hm'.1 f h2) (hl'.1 g h1)
      exact absurd (labs_mem.2 ⟨g,h1,e.symm⟩) hn'.1
   subst e
   rw[sd_eq hl'.2 hm'.2 (List.perm_cons f |>.1 h) hn'.2]
theorem srt_eq{l m:List Fd}(h:l.Perm m)(hn:(labs l).Nodup):srt l=srt m :=
 sd_eq (srt_sd l) (srt_sd m) ((srt_perm l).trans (h.trans (srt_perm m).symm)) ((List.Perm.map _ (srt_perm l)).nodup_iff.2 hn)
theorem nrm_eq{l m:List Fd}(h:l.Perm m)(hn:(labs l).Nodup)(r:Int):nrm l r=nrm m r:=by unfold nrm;rw[srt_eq h hn]
theorem nrm_in(X Y:List Fd)(r:Int)(hn:(labs (X++Y)).Nodup):nrm (X++(nrm Y r).1) r=nrm (X++Y) r:=by
 have h0:(X++srt Y).Perm (X++Y):=(srt_perm Y).append_left X
 have hn0:(labs (X++srt Y)).Nodup:=(List.Perm.map _ h0).nodup_iff.2 hn
 unfold nrm
 dsimp only
 by_cases h:r=0
 ·rw[if_pos h,if_pos h,if_pos h]
  have:srt (X++(srt Y).filter here)=srt (X++(srt Y).filter here):=rfl
  rw[srt_filter here (X++(srt Y).filter here),srt_filter here (X++Y),List.filter_append,List.filter_append,List.filter_filter]
  simp only[Bool.and_self]
  rw[← List.filter_append,← List.filter_append,← srt_filter,← srt_filter,srt_eq h0 hn0]
 ·rw[if_neg h,if_neg h,if_neg h,srt_eq h0 hn0]
theorem apRow_cmp(s u:Sub)(hs:s.ok)(F:List Fd)(r:Int):apRow s (apRow u F r).1 (apRow u F r).2=apRow (cmp s u) F r:=by
 unfold apRow
 rw[cmp_rw]
 dsimp only
 have e:(nrm (apFs u F++(u.rw r).1) (u.rw r).2).2=(u.rw r).2:=rfl
 rw[e,nrm_ap s _ _ _ _ (fun e=>by rw[e,hs]),← apFs_cmp s u hs F]
 simp only[apFs_map,List.map_append,List.append_assoc]
structure AOk (G:Ctx)(A:Ab):Prop where
 so:SubOk A.s
 sw:SubWf G A.s
 wa:WfT G A.a
 wb:WfT G A.b
 pos:Pos G
 ri:Rise G
 hi:∀ v,A.most<v→G v = .no
 rt:∀ v,A.s.ty v≠.var v→G v = .ty
 rp:∀ v,A.s.pr v≠(2,v)→G v = .pr
 rr:∀ v,A.s.rw v≠([],v)→∃ k L,G v = .rw k L
 mo:0≤A.most
def bnd(s:Sub)(v:Int):Bool:=!((s.ty v).k==1&&(s.ty v).v==v)||s.pr v !=(2,v)||(s.rw v).2 != v
def cnt(A:Ab):Nat:=((List.range A.most.toNat).filter (fun i:Nat=>!bnd A.s ((i:Int)+1))).length
def Ctx.up(G:Ctx)(n:Int)(R:Role):Ctx:=fun v=>if v=n then R else G v
theorem up_self(G:Ctx)(n:Int)(R:Role):G.up n R n=R:=if_pos rfl
theorem up_ne(G:Ctx){n v:Int}(R:Role)(h:v≠n):G.up n R v=G v:=if_neg h
def Le(G G':Ctx):Prop:=∀ v,G v≠.no→G' v=G v
theorem Le.refl(G:Ctx):Le G G:=fun _ _=>rfl
theorem Le.trans{G G' G'':Ctx}(h:Le G G')(k:Le G' G''):Le G G'':=fun v hv=>(k v (by rw[h v hv];exact hv)).trans (h v hv)
theorem EndR.le{G G':Ctx}(h:Le G G'){k:Int}{P:List UInt8→Prop}{r:Int}(e:EndR G k P r):EndR G' k P r:=by
 rcases e with e|⟨e1,L,e2,e3⟩
 ·exact .inl e
 ·exact .inr ⟨e1,L,by rw[h r (by rw[e2];simp),e2],e3⟩
theorem RowOk.le{G G':Ctx}(h:Le G G'){k:Int}{C:List UInt8→Prop}{fs:List Fd}{r:Int}(e:RowOk G k C fs r):RowOk G' k C fs r:=⟨e.1,e.2.1,e.2.2.le h⟩
mutual
theorem wfT_le{G G':Ctx}(h:Le G G'):∀ {t:TyT},WfT G t→WfT G' t
 | .mk k v args fs rest,e=>by
  rw[WfT] at e ⊢
  refine⟨e.1,fun k1=>⟨(e.2.1 k1).1,by rw[h v (by rw[(e.2.1 k1).2];simp)];exact(e.2.1 k1).2⟩,e.2.2.1,wfTs_le h e.2.2.2.1,wfFs_le h e.2.2.2.2.1,?_⟩
  have e6:=e.2.2.2.2.2
  by_cases k2:rwd k=true
  ·rw[if_pos k2] at e6 ⊢;exact e6.le h
  ·rw[if_neg k2] at e6 ⊢;exact e6
theorem wfTs_le{G G':Ctx}(h:Le G G'):∀ {l:List TyT},WfTs G l→WfTs G' l
 | [],_=>trivial
 | x::l,e=>by rw[WfTs] at e ⊢;exact⟨wfT_le h e.1,wfTs_le h e.2⟩
theorem wfFs_le{G G':Ctx}(h:Le G G'):∀ {l:List Fd},WfFs G l→WfFs G' l
 | [],_=>trivial
 | x::l,e=>by rw[WfFs] at e ⊢;exact⟨wfF_le h e.1,wfFs_le h e.2⟩
theorem wfF_le{G G':Ctx}(h:Le G G'):∀ {f:Fd},WfF G f→WfF G' f
 | ⟨lb,pr,p,t⟩,e=>by
  rw[WfF] at e ⊢
  rcases e with e|⟨e1,e2,e3⟩| ⟨e1,e2,e3,e4⟩
  ·exact .inl e
  ·exact .inr (.inl ⟨e1,e2,wfT_le h e3⟩)
  ·exact .inr (.inr ⟨e1,e2,by rw[h p (by rw[e3];simp),e3],wfT_le h e4⟩)
end
structure Adv (G:Ctx)(A:Ab)(G':Ctx)(A':Ab):Prop where
 le:Le G G'
 ok:AOk G' A'
 ext:A'=A∨(∃ u:Sub,u.ok∧A'.s=cmp u A.s)∧cnt A' < cnt A
 ea:A'.a=A.a
 eb:A'.b=A.b
 mo:A.most≤A'.most
theorem cmp_cmp_ap(u w s:Sub)(hu:u.ok)(hw:w.ok):(∀ t,ap (cmp u (cmp w s)) t=ap (cmp (cmp u w) s) t)∧(cmp u w).ok:=by
 have hc:(cmp u w).ok:=by
  show(apFs u (w.rw 0).1++(u.rw (w.rw 0).2).1,(u.rw (w.rw 0).2).2)=([],0)
  rw[hw]
  show(apFs u []++(u.rw 0).1,(u.rw 0).2)=([],0)
  rw[hu];rfl
 exact⟨fun t=>by rw[← ap_cmp u _ hu,← ap_cmp w s hw,← ap_cmp _ s hc,ap_cmp u w hu],hc⟩
theorem cmp_assoc(u w s:Sub)(hu:u.ok):cmp u (cmp w s)=cmp (cmp u w) s:=by
 have h1:∀ v,(cmp u (cmp w s)).ty v=(cmp (cmp u w) s).ty v:=fun v=>ap_cmp u w hu (s.ty v)
 have h2:∀ p,(cmp u (cmp w s)).pr p=(cmp (cmp u w) s).pr p:=fun p=>by
  rw[cmp_pr,cmp_pr,cmp_pr,cmp_pr]
  by_cases e:(s.pr p).1=2
  ·rw[if_pos e,if_pos e]
  ·rw[if_neg e,if_neg e,if_neg e]
 have h3:∀ r,(cmp u (cmp w s)).rw r=(cmp (cmp u w) s).rw r:=fun r=>by
  rw[cmp_rw,cmp_rw,cmp_rw,cmp_rw]
  dsimp only
  rw[← apFs_cmp u w hu (s.rw r).1]
  simp only[apFs_map,List.map_append,List.append_assoc]
 show Sub.mk _ _ _=Sub.mk _ _ _
 congr 1
 ·exact funext h1
 ·exact funext h2
 ·exact funext h3
theorem Adv.refl{G:Ctx}{A:Ab}(h:AOk G A):Adv G A G A:=⟨.refl G,h,.inl rfl,rfl,rfl,Int.le_refl _⟩
theorem Adv.trans{G G' G'':Ctx}{A A' A'':Ab}(h:Adv G A G' A')(k:Adv G' A' G'' A''):Adv G A G'' A'':=by
 refine⟨h.le.trans k.le,k.ok,?_,k.ea.trans h.ea,k.eb.trans h.eb,Int.le_trans h.mo k.mo⟩
 rcases k.ext with e|⟨⟨u,hu,e⟩,hc⟩
 ·rw[e];exact h.ext
 ·rcases h.ext with e' | ⟨⟨w,hw,e'⟩,hc'⟩
  ·right;rw[e'] at e hc;exact⟨⟨u,hu,e⟩,hc⟩
  ·right
   refine⟨⟨cmp u w,(cmp_cmp_ap u w A.s hu hw).2,?_⟩,Nat.lt_trans hc hc'⟩
   rw[e,e',cmp_assoc u w A.s hu]
theorem Adv.cnt{G G':Ctx}{A A':Ab}(h:Adv G A G' A'):cnt A'≤cnt A:=by
 rcases h.ext with e|⟨_,hc⟩
 ·rw[e];exact Nat.le_refl _
 ·exact Nat.le_of_lt hc
theorem Adv.same{G G':Ctx}{A A':Ab}(h:Adv G A G' A'){x y:TyT}(e:ap A.s x=ap A.s y):ap A'.s x=ap A'.s y:=by
 rcases h.ext with e' | ⟨⟨u,hu,e'⟩,_⟩
 ·rw[e'];exact e
 ·rw[e',← ap_cmp u _ hu,e,ap_cmp u _ hu]
theorem Adv.sameTs{G G':Ctx}{A A':Ab}(h:Adv G A G' A'){x y:List TyT}(e:apTs A.s x=apTs A.s y):apTs A'.s x=apTs A'.s y:=by
 rcases h.ext with e' | ⟨⟨u,hu,e'⟩,_⟩
 ·rw[e'];exact e
 ·rw[e',← apTs_cmp u _ hu,e,apTs_cmp u _ hu]
theorem Adv.sameF{G G':Ctx}{A A':Ab}(h:Adv G A G' A'){x y:Fd}(e:apF A.s x=apF A.s y):apF A'.s x=apF A'.s y:=by
 rcases h.ext with e' | ⟨⟨u,hu,e'⟩,_⟩
 ·rw[e'];exact e
 ·rw[e',← apF_cmp u _ hu,e,apF_cmp u _ hu]
theorem Adv.far{G G':Ctx}{A A':Ab}(h:Adv G A G' A')(hA:AOk G A)(x:TyT):ap A'.s (ap A.s x)=ap A'.s x:=by
 rcases h.ext with e' | ⟨⟨u,hu,e'⟩,_⟩
 ·rw[e'];exact ap_ap hA.so x
 ·rw[e',← ap_cmp u _ hu,ap_ap hA.so,ap_cmp u _ hu]
theorem Adv.farF{G G':Ctx}{A A':Ab}(h:Adv G A G' A')(hA:AOk G A)(x:Fd):apF A'.s (apF A.s x)=apF A'.s x:=by
 rcases h.ext with e' | ⟨⟨u,hu,e'⟩,_⟩
 ·rw[e'];exact apF_ap hA.so x
 ·rw[e',← apF_cmp u _ hu,apF_ap hA.so,apF_cmp u _ hu]
theorem Adv.farR{G G':Ctx}{A A':Ab}(h:Adv G A G' A')(hA:AOk G A)(F:List Fd)(r:Int):apRow A'.s (apRow A.s F r).1 (apRow A.s F r).2=apRow A'.s F r:=by
 rcases h.ext with e' | ⟨⟨u,hu,e'⟩,_⟩
 ·rw[e'];exact fixR_ap (apRow_fix hA.so F r)
 ·rw[e',← apRow_cmp u _ hu,fixR_ap (apRow_fix hA.so F r),apRow_cmp u _ hu]
theorem Adv.sameR{G G':Ctx}{A A':Ab}(h:Adv G A G' A'){F Gs:List Fd}{r q:Int}(e:apRow A.s F r=apRow A.s Gs q):apRow A'.s F r=apRow A'.s Gs q:=by
 rcases h.ext with e' | ⟨⟨u,hu,e'⟩,_⟩
 ·rw[e'];exact e
 ·rw[e',← apRow_cmp u _ hu,e,apRow_cmp u _ hu]
theorem aok_fresh{G:Ctx}{A:Ab}(h:AOk G A)(k:Int)(L:List (List UInt8))(hL:Ri L):Le G (G.up (A.most+1) (.rw k L))∧AOk (G.up (A.most+1) (.rw k L)) { A with most:=A.most+1 }:=by
 have hn:=h.hi (A.most+1) (by omega)
 have hle:Le G (G.up (A.most+1) (.rw k L)):=fun v hv=>up_ne _ _ (fun e=>by subst e;exact hv hn)
 have hpos:Pos (G.up (A.most+1) (.rw k L)):=fun v hv=>by
  by_cases e:v=A.most+1
  ·have:=h.mo;omega
  ·rw[up_ne _ _ e] at hv;exact h.pos v hv
 have hri:Rise (G.up (A.most+1) (.rw k L)):=fun v k' L' hv=>by
  by_cases e:v=A.most+1
  ·subst e;rw[up_self] at hv;cases hv;exact hL
  ·rw[up_ne _ _ e] at hv;exact h.ri v k' L' hv
 refine⟨hle,h.so,?_,wfT_le hle h.wa,wfT_le hle h.wb,hpos,hri,?_,?_,?_,?_,?_⟩
 ·refine⟨fun v hv=>?_,fun p hp=>?_,fun r k' L' hr=>?_,h.sw.ok⟩
  ·by_cases e:v=A.most+1
   ·subst e;rw[up_self] at hv;cases hv
   ·rw[up_ne _ _ e] at hv;exact wfT_le hle (h.sw.ty v hv)
  ·by_cases e:p=A.most+1
   ·subst e;rw[up_self] at hp;cases hp
   ·rw[up_ne _ _ e] at hp
    rcases h.sw.pr p hp with q|q|⟨q1,q2,q3⟩
    ·exact .inl q
    ·exact .inr (.inl q)
    ·exact .inr (.inr ⟨q1,q2,by rw[hle _ (by rw[q3];simp),q3]⟩)
  ·by_cases e:r=A.most+1
   ·have hid:A.s.rw r=([],r):=by
     apply Classical.byContradiction
     intro hne
     obtain⟨k2,L2,e2⟩:=h.rr r hne
     rw[e,hn] at e2;cases e2
    show WfFs _ (A.s.rw r).1∧(labs (A.s.rw r).1).Nodup∧_∧EndR _ _ _ (A.s.rw r).2
    rw[hid]
    exact⟨trivial,List.nodup_nil,(fun f hf=>by cases hf),end_self hpos hri hr⟩
   ·rw[up_ne _ _ e] at hr
    obtain⟨q1,q2,q3,q4⟩:=h.sw.rw_ r k' L' hr
    exact⟨wfFs_le hle q1,q2,q3,q4.le hle⟩
 ·intro v hv
  have hv:A.most+1<v:=hv
  rw[up_ne _ _ (by omega)];exact h.hi v (by omega)
 ·intro v hv;have:=h.rt v hv;rw[hle v (by rw[this];simp)];exact this
 ·intro v hv;have:=h.rp v hv;rw[hle v (by rw[this];simp)];exact this
 ·intro v hv
  obtain⟨k2,L2,e2⟩:=h.rr v hv
  exact⟨k2,L2,by rw[hle v (by rw[e2];simp)];exact e2⟩
 ·show 0≤A.most+1
  have:=h.mo;omega
theorem filter_lt{α:Type}{p q:α→Bool}:∀ {l:List α},(∀ x ∈ l,p x=true→q x=true)→(∃ x ∈ l,q x=true∧p x=false)→(l.filter p).length<(l.filter q).length
 | [],_,⟨x,hx,_⟩=>by cases hx
 | a::l,h,⟨x,hx,hq,hp⟩=>by
  have hle:∀ m:List α,(∀ x ∈ m,p x=true→q x=true)→(m.filter p).length≤(m.filter q).length:=by
   intro m
   induction m with
   | nil=>simp
   | cons b m ih =>
    intro hm
    have:=ih (fun x hx=>hm x (by simp[hx]))
    rw[List.filter_cons,List.filter_cons]
    by_cases hb:p b=true
    ·rw[if_pos hb,if_pos (hm b (by simp) hb)];simp;exact this
    ·rw[if_neg hb];split <;> simp <;> omega
  rw[List.filter_cons,List.filter_cons]
  rcases List.mem_cons.1 hx with rfl|hx
  ·rw[if_neg (by rw[hp];simp),if_pos hq]
   have:=hle l (fun y hy=>h y (by simp[hy]))
   simp;omega
  ·have ih:=filter_lt (l:=l) (fun y hy=>h y (by simp[hy])) ⟨x,hx,hq,hp⟩
   by_cases ha:p a=true
   ·rw[if_pos ha,if_pos (h a (by simp) ha)];simp;exact ih
   ·rw[if_neg ha];split <;> simp <;> omega
structure Bd (G:Ctx)(A:Ab)(u:Sub)(v:Int):Prop where
 so:SubOk (cmp u A.s)
 sw:SubWf G u
 it:∀ x,x≠v→u.ty x = .var x
 ip:∀ x,x≠v→u.pr x=(2,x)
 ir:∀ x,x≠v→u.rw x=([],x)
 rt:u.ty v≠.var v→G v = .ty
 rp:u.pr v≠(2,v)→G v = .pr
 rr:u.rw v≠([],v)→∃ k L,G v = .rw k L
 nb:A.s.ty v = .var v∧A.s.pr v=(2,v)∧A.s.rw v=([],v)
 bd:bnd u v=true
 tt:∀ x,u.ty v = .var x→A.s.ty x = .var x
 tp:∀ x,u.pr v=(2,x)→A.s.pr x=(2,x)
 tr:A.s.rw (u.rw v).2=([],(u.rw v).2)
 no:G v≠.no
theorem var_of_fix{s:Sub}{t:TyT}(h:FixT s t)(hk:t.k=1):t = .var t.v∧s.ty t.v = .var t.v:=by
 obtain⟨k,v,args,fs,rest⟩:=t
 have hk:k=1:=hk
 rw[FixT,if_pos hk] at h
 obtain⟨h1,rfl,rfl,rfl⟩:=h
 subst hk
 exact⟨rfl,h1⟩
theorem ap_k(s:Sub){t:TyT}(h:t.k≠1):(ap s t).k=t.k:=by
 obtain⟨k,v,args,fs,rest⟩:=t
 have h:k≠1:=h
 rw[ap,if_neg h]
 split <;> rfl
theorem bd_adv{G:Ctx}{A:Ab}{u:Sub}{v:Int}(h:AOk G A)(b:Bd G A u v):Adv G A G (A.put u).2∧cnt (A.put u).2<cnt A:=by
 have hv1:=h.pos v b.no
 have hv2:v≤A.most:=by
  apply Classical.byContradiction
  intro hn
  exact b.no (h.hi v (by omega))
 obtain⟨n1,n2,n3⟩:=b.nb
 have c1:(cmp u A.s).ty v=u.ty v:=by rw[cmp_ty,n1,ap_var]
 have c2:(cmp u A.s).pr v=u.pr v:=by rw[cmp_pr,n2,if_pos rfl]
 have c3:(cmp u A.s).rw v=u.rw v:=by
  rw[cmp_rw,n3]
  dsimp only
  rw[apFs,List.nil_append]
 suffices hk:AOk G (A.put u).2∧cnt (A.put u).2<cnt A from ⟨⟨.refl G,hk.1,.inr ⟨⟨u,b.sw.ok,rfl⟩,hk.2⟩,rfl,rfl,Int.le_refl _⟩,hk.2⟩
 refine⟨⟨b.so,subWf_cmp h.sw b.sw,h.wa,h.wb,h.pos,h.ri,h.hi,?_,?_,?_,h.mo⟩,?_⟩
 ·intro x hx
  by_cases e:A.s.ty x = .var x
  ·have hx:(cmp u A.s).ty x≠.var x:=hx
   rw[cmp_ty,e,ap_var] at hx
   by_cases e2:x=v
   ·subst e2;exact b.rt hx
   ·exact absurd (b.it x e2) hx
  ·exact h.rt x e
 ·intro x hx
  by_cases e:A.s.pr x=(2,x)
  ·have hx:(cmp u A.s).pr x≠(2,x):=hx
   rw[cmp_pr,e,if_pos rfl] at hx
   by_cases e2:x=v
   ·subst e2;exact b.rp hx
   ·exact absurd (b.ip x e2) hx
  ·exact h.rp x e
 ·intro x hx
  by_cases e:A.s.rw x=([],x)
  ·have hx:(cmp u A.s).rw x≠([],x):=hx
   rw[cmp_rw,e] at hx
   dsimp only at hx
   rw[apFs,List.nil_append] at hx
   by_cases e2:x=v
   ·subst e2;exact b.rr hx
   ·exact absurd (b.ir x e2) hx
  ·exact h.rr x e
 ·refine filter_lt (fun i _ hi=>?_) ⟨(v-1).toNat,by rw[List.mem_range];show(v-1).toNat<A.most.toNat;omega,?_,?_⟩
  ·have hi:(!bnd (cmp u A.s) ((i:Int)+1))=true:=hi
   generalize (i:Int)+1=x at *
   rw[Bool.not_eq_true'] at hi ⊢
   simp only[bnd,Bool.or_eq_false_iff,Bool.not_eq_false',Bool.and_eq_true,beq_iff_eq,bne_eq_false_iff_eq] at hi ⊢
   obtain⟨⟨⟨g1,g2⟩,g3⟩,g4⟩:=hi
   refine⟨⟨?_,?_⟩,?_⟩
   ·rw[cmp_ty] at g1 g2
    by_cases e:(A.s.ty x).k=1
    ·obtain⟨e1,e2⟩:=var_of_fix (h.so.ty x) e
     rw[e1,ap_var] at g1 g2
     by_cases e3:(A.s.ty x).v=v
     ·have e4:=(var_of_fix (b.so.ty x) (by rw[cmp_ty,e1,ap_var];exact g1)).1
      rw[cmp_ty,e1,ap_var,g2] at e4
      rw[e3] at e4
      have:=b.tt x e4
      rw[this];exact⟨rfl,rfl⟩
     ·rw[b.it _ e3] at g2
      have g2:(A.s.ty x).v=x:=g2
      exact⟨e,g2⟩
    ·rw[ap_k u e] at g1;exact absurd g1 e
   ·rw[cmp_pr] at g3
    by_cases e:(A.s.pr x).1=2
    ·rw[if_pos e] at g3
     by_cases e3:(A.s.pr x).2=v
     ·rw[e3] at g3;exact b.tp x g3
     ·rw[b.ip _ e3] at g3
      have g3:(A.s.pr x).2=x:=(Prod.mk.inj g3).2
      exact Prod.ext e g3
    ·rw[if_neg e] at g3;exact g3
   ·rw[cmp_rw] at g4
    dsimp only at g4
    by_cases e3:(A.s.rw x).2=v
    ·rw[e3] at g4
     have:=b.tr
     rw[g4] at this
     rw[this]
    ·rw[b.ir _ e3] at g4;exact g4
  ·have e:((v-1).toNat:Int)+1=v:=by omega
   rw[e]
   simp only[bnd,n1,n2,n3]
   simp[TyT.var,TyT.k,TyT.v]
  ·have e:((v-1).toNat:Int)+1=v:=by omega
   rw[e]
   show(!bnd (cmp u A.s) v)=false
   have:=b.bd
   unfold bnd at this ⊢
   rw[c1,c2,c3,this];rfl
theorem cnt_fresh{G:Ctx}{A:Ab}(h:AOk G A):cnt { A with most:=A.most+1 }=cnt A+1:=by
 have hn:=h.hi (A.most+1) (by omega)
 have e1:A.s.ty (A.most+1)= .var (A.most+1):=Classical.byContradiction (fun hc=>by have:=h.rt _ hc;rw[hn] at this;cases this)
 have e2:A.s.pr (A.most+1)=(2,A.most+1):=Classical.byContradiction (fun hc=>by have:=h.rp _ hc;rw[hn] at this;cases this)
 have e3:A.s.rw (A.most+1)=([],A.most+1):=Classical.byContradiction (fun hc=>by obtain⟨k,L,this⟩:=h.rr _ hc;rw[hn] at this;cases this)
 have hm:=h.mo
 have et:(A.most+1).toNat=A.most.toNat+1:=by omega
 unfold cnt
 rw[et,List.range_succ,List.filter_append,List.length_append]
 have ei:((A.most.toNat:Nat):Int)+1=A.most+1:=by omega
 have:(!bnd A.s (((A.most.toNat:Nat):Int)+1))=true:=by
  rw[ei]
  simp only[bnd,e1,e2,e3]
  simp[TyT.var,TyT.k,TyT.v]
 rw[List.filter_cons,if_pos this];rfl
theorem var_occ(v:Int):occT v (.var v)=true:=by rw[TyT.var,occT];simp
theorem lv_pr{G:Ctx}{A:Ab}(h:AOk G A){v:Int}(hv:¬ G v = .pr):A.s.pr v=(2,v):=Classical.byContradiction (fun hc=>hv (h.rp v hc))
theorem lv_ty{G:Ctx}{A:Ab}(h:AOk G A){v:Int}(hv:¬ G v = .ty):A.s.ty v = .var v:=Classical.byContradiction (fun hc=>hv (h.rt v hc))
theorem lv_rw{G:Ctx}{A:Ab}(h:AOk G A){v:Int}(hv:∀ k L,¬ G v = .rw k L):A.s.rw v=([],v):=Classical.byContradiction (fun hc=>by obtain⟨k,L,e⟩:=h.rr v hc;exact hv k L e)
theorem tyB_bd{G:Ctx}{A:Ab}{v:Int}{t:TyT}(h:AOk G A)(hv:G v = .ty)(hn:A.s.ty v = .var v)(ht:FixT A.s t)(hw:WfT G t)(ho:occT v t=false):Bd G A (.tyB v t) v:=by
 have np:=lv_pr h (v:=v) (by rw[hv];simp)
 have nr:=lv_rw h (v:=v) (by rw[hv];simp)
 have hself:(Sub.tyB v t).ty v=t:=if_pos rfl
 refine⟨subOk_tyB h.so ht ho,subWf_tyB h.pos h.ri hw,fun x hx=>if_neg hx,fun _ _=>rfl,fun _ _=>rfl,fun _=>hv,fun hc=>absurd rfl hc,fun hc=>absurd rfl hc,⟨hn,np,nr⟩,?_,fun x hx=>?_,fun x hx=>?_,nr,by rw[hv];simp⟩
 ·have:(t.k==1&&t.v==v)=false:=by
   cases hk:(t.k==1&&t.v==v)
   ·rfl
   ·exfalso
    simp only[Bool.and_eq_true,beq_iff_eq] at hk
    have:=(var_of_fix ht hk.1).1
    rw[hk.2] at this
    rw[this,var_occ] at ho;cases ho
  unfold bnd
  rw[hself,this];rfl
 ·rw[hself] at hx
  subst hx
  rw[TyT.var,FixT,if_pos rfl] at ht
  exact ht.1
 ·have:x=v:=by cases hx;rfl
  rw[this];exact np
theorem bindA_adv{G:Ctx}{A A':Ab}{v e:Int}{t:TyT}(h:AOk G A)(hv:G v = .ty)(hn:A.s.ty v = .var v)(ht:FixT A.s t)(hw:WfT G t)(hb:bindA A v t=(e,A')):
  Adv G A G A'∧(e=0→∀ x y,ap A.s x = .var v→ap A.s y=t→ap A'.s x=ap A'.s y):=by
 unfold bindA at hb
 split at hb
 ·cases hb;exact⟨.refl h,fun e=>by cases e⟩
 ·rename_i ho
  rw[Bool.not_eq_true] at ho
  have hself:(Sub.tyB v t).ty v=t:=if_pos rfl
  have hA:A'=(A.put (.tyB v t)).2:=by rw[hb]
  refine⟨hA ▸ (bd_adv h (tyB_bd h hv hn ht hw ho)).1,fun _ x y hx hy=>?_⟩
  have e':A'.s=cmp (.tyB v t) A.s:=by rw[hA];rfl
  have hk:FixT (.tyB v t) t:=fix_keep (v:=v) (fun x _ hne=>if_neg hne) (fun _ _=>rfl) (fun _ _ _=>rfl) ht ho
  rw[e',← ap_cmp _ _ (show(Sub.tyB v t).ok from rfl),← ap_cmp _ _ (show(Sub.tyB v t).ok from rfl),hx,hy,ap_var,hself,fix_ap hk]
theorem row_nodup{G:Ctx}{s:Sub}(hs:SubWf G s){k:Int}{C:List UInt8→Prop}{fs:List Fd}{r:Int}(hn:(labs fs).Nodup)(he:EndR G k (fun x=>C x∨x ∈ labs fs) r):(labs (apFs s fs++(s.rw r).1)).Nodup:=by
 rw[labs_app,labs_apFs,List.nodup_append]
 rcases he with e|⟨_,L,e1,e2,e3⟩
 ·rw[e,hs.ok];exact⟨hn,List.nodup_nil,fun a _ b hb=>by cases hb⟩
 ·obtain⟨g1,g2,g3,g4⟩:=hs.rw_ r k L e1
  refine⟨hn,g2,fun a ha b hb e=>?_⟩
  subst e
  obtain⟨f,hf,rfl⟩:=labs_mem.1 hb
  exact(g3 f hf).2 ((e3 _).2 (.inr ha))
theorem rwB_bd{G:Ctx}{A:Ab}{v k:Int}{L:List (List UInt8)}{Q:List Fd×Int}(h:AOk G A)(hv:G v = .rw k L)(hn:A.s.rw v=([],v))(hq:FixR A.s Q)(hw2:WfFs G Q.1)(hr2:RowOk G k (· ∈ L) Q.1 Q.2)(ho:occR v Q=false):Bd G A (.rwB v Q) v:=by
 have np:=lv_pr h (v:=v) (by rw[hv];simp)
 have nt:=lv_ty h (v:=v) (by rw[hv];simp)
 have hself:(Sub.rwB v Q).rw v=Q:=if_pos rfl
 have hv0:v≠0:=fun e=>by have:=h.pos v (by rw[hv];simp);omega
 have ho':=ho
 rw[occR,Bool.or_eq_false_iff] at ho'
 have hq2:Q.2≠v:=by simpa using ho'.1
 refine⟨subOk_rwB h.so hv0 hq ho,subWf_rwB h.pos h.ri hv hw2 hr2,fun _ _=>rfl,fun _ _=>rfl,fun x hx=>if_neg hx,fun hc=>absurd rfl hc,fun hc=>absurd rfl hc,fun _=>⟨k,L,hv⟩,⟨nt,np,hn⟩,?_,fun x hx=>?_,fun x hx=>?_,?_,by rw[hv];simp⟩
 ·unfold bnd
  rw[hself,show(Q.2 != v)=true from bne_iff_ne.2 hq2,Bool.or_true]
 ·have:x=v:=by
   have hx:TyT.var v=TyT.var x:=hx
   unfold TyT.var at hx
   cases hx;rfl
  rw[this];exact nt
 ·have:x=v:=by cases hx;rfl
  rw[this];exact np
 ·rw[hself];exact hq.2.1
theorem restA_adv{G:Ctx}{A A':Ab}{v e k r:Int}{L:List (List UInt8)}{fs:List Fd}(h:AOk G A)(hv:G v = .rw k L)(hn:A.s.rw v=([],v))(hw:WfFs G fs)(hr:RowOk G k (· ∈ L) fs r)(hb:restA A v fs r=(e,A')):
  Adv G A G A'∧(e=0→apRow A'.s [] v=apRow A'.s fs r∧cnt A' < cnt A)∧(∀ b,b≠v→A.s.rw b=([],b)→A'.s.rw b=([],b)):=by
 unfold restA at hb
 split at hb
 ·cases hb;exact⟨.refl h,fun e=>(by cases e),fun b _ hb=>hb⟩
 ·rename_i ho
  rw[Bool.not_eq_true] at ho
  have hq:=apRow_fix h.so fs r
  obtain⟨hw2,hr2⟩:=apRow_wf h.sw hw hr
  generalize hQ:apRow A.s fs r=Q at *
  have hself:(Sub.rwB v Q).rw v=Q:=if_pos rfl
  have hv0:v≠0:=fun e=>by have:=h.pos v (by rw[hv];simp);omega
  have ho':=ho
  rw[occR,Bool.or_eq_false_iff] at ho'
  have hq2:Q.2≠v:=by simpa using ho'.1
  have hA:A'=(A.put (.rwB v Q)).2:=by rw[hb]
  have hadv:Adv G A G A'∧cnt A' < cnt A:=hA ▸ bd_adv h (rwB_bd h hv hn hq hw2 hr2 ho)
  have e':A'.s=cmp (.rwB v Q) A.s:=by rw[hA];rfl
  have hok:(Sub.rwB v Q).ok:=if_neg (Ne.symm hv0)
  have hrw:A'.s.rw v=Q:=by
   rw[e',cmp_rw,hn]
   dsimp only
   rw[apFs,List.nil_append,hself]
  refine⟨hadv.1,fun _=>⟨?_,hadv.2⟩,fun b hbv hb=>?_⟩
  ·have e1:apRow A'.s [] v=Q:=by
    unfold apRow
    rw[hrw,apFs,List.nil_append,hq.2.2]
   have hk:FixFs (.rwB v Q) Q.1:=fixFs_keep (v:=v) (fun _ _ _=>rfl) (fun _ _=>rfl) (fun x _ hne=>if_neg hne) hq.1 ho'.2
   have h2:(Sub.rwB v Q).rw Q.2=([],Q.2):=if_neg hq2
   rw[e1,e',← apRow_cmp _ _ hok,hQ,fixR_ap ⟨hk,h2,hq.2.2⟩]
  ·rw[e',cmp_rw,hb]
   dsimp only
   rw[apFs,List.nil_append]
   exact if_neg hbv
def pre(s:Sub)(f:Fd):Int×Int:=if f.pr=2 then s.pr f.p else (f.pr,f.p)
theorem apF_pre(s:Sub)(f:Fd):apF s f=if (pre s f).1=0 then ⟨f.lb,0,(pre s f).2,.zero⟩else ⟨f.lb,(pre s f).1,(pre s f).2,ap s f.t⟩:=by
 obtain⟨lb,pr,p,t⟩:=f
 rw[apF]
 unfold pre
 dsimp only
 by_cases h1:pr=2
 ·rw[if_pos h1,if_pos h1]
 ·rw[if_neg h1,if_neg h1]
theorem apF_pr(s:Sub)(f:Fd):(apF s f).pr=(pre s f).1:=by
 rw[apF_pre];split
 ·rename_i h;exact h.symm
 ·rfl
theorem apF_p(s:Sub)(f:Fd):(apF s f).p=(pre s f).2:=by rw[apF_pre];split <;> rfl
theorem apF_t(s:Sub)(f:Fd)(h:(pre s f).1≠0):(apF s f).t=ap s f.t:=by rw[apF_pre,if_neg h]
theorem wfF_pre{G:Ctx}{f:Fd}(h:WfF G f):(f.pr=0∧f.p=0∧f.t = .zero)∨(f.pr=1∧f.p=0∧WfT G f.t)∨(f.pr=2∧1≤f.p∧G f.p = .pr∧WfT G f.t):=by
 obtain⟨lb,pr,p,t⟩:=f;rw[WfF] at h;exact h
theorem fixF_pre{s:Sub}{f:Fd}(h:FixF s f):f.pr=2→s.pr f.p=(2,f.p):=by
 obtain⟨lb,pr,p,t⟩:=f
 rw[FixF] at h
 intro e
 have e:pr=2:=e
 rw[if_neg (by omega)] at h
 exact h.2 e
theorem fix_pre{s:Sub}{f:Fd}(h:FixF s f):pre s f=(f.pr,f.p):=by
 unfold pre;split
 ·rename_i e;rw[fixF_pre h e,e]
 ·rfl
theorem prB_bd{G:Ctx}{A:Ab}{p:Int}{q:Int×Int}(h:AOk G A)(hp:G p = .pr)(hn:A.s.pr p=(2,p))(hq:q=(0,0)∨q=(1,0)∨(q.1=2∧1≤q.2∧G q.2 = .pr))(hq2:q.1=2→q.2≠p∧A.s.pr q.2=(2,q.2)):Bd G A (.prB p q) p:=by
 have nt:A.s.ty p = .var p:=Classical.byContradiction (fun hc=>by have:=h.rt p hc;rw[hp] at this;cases this)
 have nr:A.s.rw p=([],p):=Classical.byContradiction (fun hc=>by obtain⟨k,L,this⟩:=h.rr p hc;rw[hp] at this;cases this)
 have hself:(Sub.prB p q).pr p=q:=if_pos rfl
 refine⟨subOk_prB h.so hq2,subWf_prB h.pos h.ri hq,fun _ _=>rfl,fun x hx=>if_neg hx,fun _ _=>rfl,fun hc=>absurd rfl hc,fun _=>hp,fun hc=>absurd rfl hc,⟨nt,hn,nr⟩,?_,fun x hx=>?_,fun x hx=>?_,nr,by rw[hp];simp⟩
 ·have:(q !=(2,p))=true:=by
   rw[bne_iff_ne];intro e
   exact(hq2 (by rw[e])).1 (by rw[e])
  unfold bnd
  rw[hself,this];simp
 ·have:x=p:=by
   have hx:TyT.var p=TyT.var x:=hx
   unfold TyT.var at hx
   cases hx;rfl
  rw[this];exact nt
 ·rw[hself] at hx
  have:=(hq2 (by rw[hx])).2
  rw[hx] at this;exact this
theorem prB_pre{A:Ab}{p:Int}{q:Int×Int}{f:Fd}(h:pre A.s f=(2,p)):pre (A.put (.prB p q)).2.s f=q:=by
 have e:(A.put (.prB p q)).2.s=cmp (.prB p q) A.s:=rfl
 unfold pre at h ⊢
 rw[e]
 by_cases hf:f.pr=2
 ·rw[if_pos hf] at h ⊢
  rw[cmp_pr,h,if_pos rfl];exact if_pos rfl
 ·rw[if_neg hf] at h;exact absurd (Prod.mk.inj h).1 hf
theorem pre_other{A:Ab}{p:Int}{q:Int×Int}{f:Fd}(h:pre A.s f≠(2,p)):pre (A.put (.prB p q)).2.s f=pre A.s f:=by
 have e:(A.put (.prB p q)).2.s=cmp (.prB p q) A.s:=rfl
 unfold pre at h ⊢
 rw[e]
 by_cases hf:f.pr=2
 ·rw[if_pos hf] at h ⊢
  rw[if_pos hf,cmp_pr]
  by_cases h1:(A.s.pr f.p).1=2
  ·rw[if_pos h1]
   have hne:(A.s.pr f.p).2≠p:=fun e=>h (Prod.ext h1 e)
   have:(Sub.prB p q).pr (A.s.pr f.p).2=(2,(A.s.pr f.p).2):=if_neg hne
   rw[this,← h1]
  ·rw[if_neg h1]
 ·rw[if_neg hf,if_neg hf]
theorem pre_wf{G:Ctx}{A:Ab}(h:AOk G A){f:Fd}(hf:WfF G f):pre A.s f=(0,0)∨pre A.s f=(1,0)∨((pre A.s f).1=2∧1≤(pre A.s f).2∧G (pre A.s f).2 = .pr∧A.s.pr (pre A.s f).2=(2,(pre A.s f).2)):=by
 unfold pre
 rcases wfF_pre hf with⟨e1,e2,_⟩| ⟨e1,e2,_⟩| ⟨e1,e2,e3,_⟩
 ·rw[if_neg (by omega),e1,e2];exact .inl rfl
 ·rw[if_neg (by omega),e1,e2];exact .inr (.inl rfl)
 ·rw[if_pos e1]
  rcases h.sw.pr f.p e3 with q|q|⟨q1,q2,q3⟩
  ·exact .inl q
  ·exact .inr (.inl q)
  ·exact .inr (.inr ⟨q1,q2,q3,by rw[h.so.pr f.p q1,← q1]⟩)
theorem absA_adv{G:Ctx}{A A':Ab}{e:Int}{f:Fd}(h:AOk G A)(hf:WfF G f)(hb:absA A f=(e,A')):Adv G A G A'∧(e=0→(apF A'.s f).pr=0):=by
 unfold absA at hb
 rw[apF_pr,apF_p] at hb
 rcases pre_wf h hf with q|q|⟨q1,q2,q3,q4⟩
 ·rw[q,if_neg (by decide),if_neg (by decide)] at hb
  cases hb
  exact⟨.refl h,fun _=>by rw[apF_pr,q]⟩
 ·rw[q,if_pos rfl] at hb
  cases hb
  exact⟨.refl h,fun e=>by cases e⟩
 ·rw[if_neg (by omega),if_pos q1] at hb
  have hA:A'=(A.put (.prB (pre A.s f).2 (0,0))).2:=by rw[hb]
  refine⟨hA ▸ (bd_adv h (prB_bd h q3 q4 (.inl rfl) (fun e=>by cases e))).1,fun _=>?_⟩
  rw[hA,apF_pr,prB_pre (Prod.ext q1 rfl)]
theorem presA_adv{G:Ctx}{A A':Ab}{e:Int}{f g:Fd}(h:AOk G A)(hf:WfF G f)(hg:WfF G g)(hb:presA A (apF A.s f) (apF A.s g)=(e,A')):
  Adv G A G A'∧(e=0→pre A'.s f=pre A'.s g):=by
 unfold presA at hb
 simp only[apF_pr,apF_p] at hb
 rcases pre_wf h hf with q|q|⟨q1,q2,q3,q4⟩
 ·rcases pre_wf h hg with r|r|⟨r1,r2,r3,r4⟩
  ·rw[q,r] at hb
   simp at hb;obtain⟨rfl,rfl⟩:=hb
   exact⟨.refl h,fun _=>by rw[q,r]⟩
  ·rw[q,r] at hb
   simp at hb;obtain⟨rfl,rfl⟩:=hb
   exact⟨.refl h,fun e=>by cases e⟩
  ·rw[if_neg (by rw[q];simp),if_neg (by rw[q];simp),if_pos r1,q] at hb
   have hA:A'=(A.put (.prB (pre A.s g).2 (0,0))).2:=by rw[hb]
   refine⟨hA ▸ (bd_adv h (prB_bd h r3 r4 (.inl rfl) (fun e=>by cases e))).1,fun _=>?_⟩
   rw[hA,prB_pre (Prod.ext r1 rfl),pre_other (by rw[q];simp),q]
 ·rcases pre_wf h hg with r|r|⟨r1,r2,r3,r4⟩
  ·rw[q,r] at hb
   simp at hb;obtain⟨rfl,rfl⟩:=hb
   exact⟨.refl h,fun e=>by cases e⟩
  ·rw[q,r] at hb
   simp at hb;obtain⟨rfl,rfl⟩:=hb
   exact⟨.refl h,fun _=>by rw[q,r]⟩
  ·rw[if_neg (by rw[q];simp),if_neg (by rw[q];simp),if_pos r1,q] at hb
   have hA:A'=(A.put (.prB (pre A.s g).2 (1,0))).2:=by rw[hb]
   refine⟨hA ▸ (bd_adv h (prB_bd h r3 r4 (.inr (.inl rfl)) (fun e=>by cases e))).1,fun _=>?_⟩
   rw[hA,prB_pre (Prod.ext r1 rfl),pre_other (by rw[q];simp),q]
 ·by_cases hc:(pre A.s f).1=2∧(pre A.s g).1=2∧(pre A.s f).2=(pre A.s g).2
  ·rw[if_pos hc] at hb
   cases hb
   exact⟨.refl h,fun _=>Prod.ext (by rw[hc.1,hc.2.1]) hc.2.2⟩
  ·rw[if_neg hc,if_pos q1] at hb
   have hA:A'=(A.put (.prB (pre A.s f).2 (pre A.s g))).2:=by rw[hb]
   have hne:pre A.s g≠(2,(pre A.s f).2):=fun e=>hc ⟨q1,by rw[e],by rw[e]⟩
   have hw:pre A.s g=(0,0)∨pre A.s g=(1,0)∨((pre A.s g).1=2∧1≤(pre A.s g).2∧G (pre A.s g).2 = .pr):=by
    rcases pre_wf h hg with r|r|⟨r1,r2,r3,r4⟩
    ·exact .inl r
    ·exact .inr (.inl r)
    ·exact .inr (.inr ⟨r1,r2,r3⟩)
   refine⟨hA ▸ (bd_adv h (prB_bd h q3 q4 hw (fun e=>⟨fun e2=>hne (Prod.ext e e2),?_⟩))).1,fun _=>?_⟩
   ·rcases pre_wf h hg with r|r|⟨r1,r2,r3,r4⟩
    ·rw[r] at e;cases e
    ·rw[r] at e;cases e
    ·exact r4
   ·rw[hA,prB_pre (Prod.ext q1 rfl),pre_other hne]
theorem all_absent{s:Sub}{l N:List Fd}(h:∀ f ∈ l,(apF s f).pr=0):nrm (apFs s l++N) 0=nrm N 0:=by
 have e:(apFs s l).filter here=[]:=by
  rw[List.filter_eq_nil_iff,apFs_map]
  intro x hx
  obtain⟨f,hf,rfl⟩:=List.mem_map.1 hx
  simp[here,h f hf]
 unfold nrm
 rw[if_pos rfl,if_pos rfl,srt_filter,srt_filter,List.filter_append,e,List.nil_append]
theorem row_bind{s:Sub}{a r:Int}{M F:List Fd}(h:apRow s [] a=apRow s F r)(h1:(labs (apFs s M++(s.rw a).1)).Nodup)(h2:(labs (apFs s (M++F)++(s.rw r).1)).Nodup):apRow s M a=apRow s (M++F) r:=by
 unfold apRow at h ⊢
 rw[apFs,List.nil_append] at h
 have e2:(nrm (s.rw a).1 (s.rw a).2).2=(nrm (apFs s F++(s.rw r).1) (s.rw r).2).2:=by rw[h]
 have e2:(s.rw a).2=(s.rw r).2:=e2
 have e1:(nrm (s.rw a).1 (s.rw a).2).1=(nrm (apFs s F++(s.rw r).1) (s.rw r).2).1:=by rw[h]
 have h2':(labs (apFs s M++(apFs s F++(s.rw r).1))).Nodup:=by
  rw[apFs_map,List.map_append,List.append_assoc,← apFs_map,← apFs_map] at h2;exact h2
 rw[← nrm_in _ _ _ h1,e1,e2,nrm_in _ _ _ h2']
 rw[apFs_map s (M++F),List.map_append,List.append_assoc,← apFs_map,← apFs_map]
theorem both_same{s:Sub}{F Gs:List Fd}:∀ {ls:List (List UInt8)},(∀ x ∈ ls,∀ f g,fnd x F=some f→fnd x Gs=some g→apF s f=apF s g)→apFs s (bothL F Gs ls)=apFs s (bothL Gs F ls)
 | [],_=>rfl
 | x::ls,h=>by
  have ih:=both_same (s:=s) (F:=F) (Gs:=Gs) (ls:=ls) (fun y hy=>h y (by simp[hy]))
  rw[bothL,bothL]
  cases h1:fnd x F with
  | none=>cases h2:fnd x Gs <;> exact ih
  | some f =>
   cases h2:fnd x Gs with
   | none=>exact ih
   | some g =>
    dsimp only
    rw[apFs,apFs,ih,h x (by simp) f g h1 h2]
structure Two (G:Ctx)(k:Int)(C:List UInt8→Prop)(q p:List Fd×Int):Prop where
 wq:WfFs G q.1
 wp:WfFs G p.1
 rq:RowOk G k C q.1 q.2
 rp:RowOk G k C p.1 p.2
theorem Two.le{G G':Ctx}{k:Int}{C:List UInt8→Prop}{q p:List Fd×Int}(h:Two G k C q p)(l:Le G G'):Two G' k C q p:=⟨wfFs_le l h.wq,wfFs_le l h.wp,h.rq.le l,h.rp.le l⟩
theorem Two.symm{G:Ctx}{k:Int}{C:List UInt8→Prop}{q p:List Fd×Int}(h:Two G k C q p):Two G k C p q:=⟨h.wp,h.wq,h.rp,h.rq⟩
theorem only_row{G:Ctx}{k:Int}{C:List UInt8→Prop}{q p:List Fd×Int}(h:Two G k C q p){ls:List (List UInt8)}(hls:Ri ls)(hm:∀ x,x ∈ labs q.1→x ∈ ls):
  WfFs G (onlyL q.1 p.1 ls)∧RowOk G k (fun x=>C x∨x ∈ labs q.1∧x ∈ labs p.1) (onlyL q.1 p.1 ls) q.2:=by
 refine⟨(wfFs_iff G _).2 (fun f hf=>(wfFs_iff G _).1 h.wq f (onlyL_mem hf).2.1),hls.sublist (onlyL_sub _ _ _),fun f hf=>?_,?_⟩
 ·obtain⟨_,h2,h3⟩:=onlyL_mem hf
  obtain⟨g1,g2,g3⟩:=h.rq.2.1 f h2
  exact⟨g1,fun hc=>hc.elim g2 (fun hc=>h3 hc.2),g3⟩
 ·refine h.rq.2.2.mono (fun x=>?_)
  constructor
  ·rintro(hc|hx)
   ·exact .inl (.inl hc)
   ·by_cases hp:x ∈ labs p.1
    ·exact .inl (.inr ⟨hx,hp⟩)
    ·obtain⟨f,hf,rfl⟩:=labs_mem.1 hx
     have:=only_both_in (G:=p.1) (ri_nodup h.rq.1) hf (hm _ hx)
     rw[if_neg hp] at this
     exact .inr (labs_mem.2 ⟨f,this,rfl⟩)
  ·rintro((hc|hc)| hx)
   ·exact .inl hc
   ·exact .inr hc.1
   ·obtain⟨f,hf,rfl⟩:=labs_mem.1 hx
    exact .inr (labs_mem.2 ⟨f,(onlyL_mem hf).2.1,rfl⟩)
theorem labs_split{F G:List Fd}{ls:List (List UInt8)}(hn:(labs F).Nodup)(hm:∀ x,x ∈ labs F→x ∈ ls)(x:List UInt8):x ∈ labs F↔(x ∈ labs F∧x ∈ labs G)∨x ∈ labs (onlyL F G ls):=by
 constructor
 ·intro hx
  by_cases hp:x ∈ labs G
  ·exact .inl ⟨hx,hp⟩
  ·obtain⟨f,hf,rfl⟩:=labs_mem.1 hx
   have:=only_both_in (G:=G) hn hf (hm _ hx)
   rw[if_neg hp] at this
   exact .inr (labs_mem.2 ⟨f,this,rfl⟩)
 ·rintro(hx|hx)
  ·exact hx.1
  ·obtain⟨f,hf,rfl⟩:=labs_mem.1 hx
   exact labs_mem.2 ⟨f,(onlyL_mem hf).2.1,rfl⟩
theorem rows_join{G:Ctx}{s:Sub}(hs:SubWf G s){k:Int}{C:List UInt8→Prop}{q p:List Fd×Int}(h:Two G k C q p){ls:List (List UInt8)}(hls:Ri ls)(hq:∀ x,x ∈ labs q.1→x ∈ ls)(hp:∀ x,x ∈ labs p.1→x ∈ ls)
  (hb:∀ x ∈ ls,∀ f g,fnd x q.1=some f→fnd x p.1=some g→apF s f=apF s g) (ho:apRow s (onlyL q.1 p.1 ls) q.2=apRow s (onlyL p.1 q.1 ls) p.2):apRow s q.1 q.2=apRow s p.1 p.2:=by
 have key:∀ {q p:List Fd×Int},Two G k C q p→(∀ x,x ∈ labs q.1→x ∈ ls)→apRow s q.1 q.2=nrm (apFs s (bothL q.1 p.1 ls)++(apRow s (onlyL q.1 p.1 ls) q.2).1) (apRow s (onlyL q.1 p.1 ls) q.2).2:=by
  intro q p h hq
  have h1:=split_perm (G:=p.1) (ri_nodup h.rq.1) (ri_nodup hls) hq
  have hn:=row_nodup hs (ri_nodup h.rq.1) h.rq.2.2
  have h2:(apFs s q.1++(s.rw q.2).1).Perm (apFs s (bothL q.1 p.1 ls)++(apFs s (onlyL q.1 p.1 ls)++(s.rw q.2).1)):=by
   rw[← List.append_assoc]
   refine List.Perm.append_right _ ?_
   rw[apFs_map,apFs_map,apFs_map,← List.map_append]
   exact h1.map _
  have hn2:=(List.Perm.map (fun f:Fd=>f.lb) h2).nodup_iff.1 hn
  show nrm _ _=nrm (_++(nrm _ _).1) _
  rw[nrm_eq h2 hn]
  exact(nrm_in _ _ _ hn2).symm
 rw[key h hq,key h.symm hp,ho,both_same hb]
theorem not_told{G:Ctx}{A:Ab}(h:AOk G A){k r:Int}{P:List UInt8→Prop}(hr:EndR G k P r)(ht:told A r=false):A.s.rw r=([],r):=by
 rcases hr with e|⟨e,_⟩
 ·rw[e];exact h.sw.ok
 ·unfold told at ht
  rw[show decide (0<r)=true from decide_eq_true (by omega),Bool.true_and] at ht
  have h2:(A.s.rw r).2=r:=by simpa using ht
  have:=(h.so.rw_ r).2
  rw[h2] at this;exact this
theorem restsA_adv{G:Ctx}{A A':Ab}{k e:Int}{C:List UInt8→Prop}{q p:List Fd×Int}{ls:List (List UInt8)}(h:AOk G A)(ht:Two G k C q p)(hls:Ri ls)(hq:∀ x,x ∈ labs q.1→x ∈ ls)(hp:∀ x,x ∈ labs p.1→x ∈ ls)
  (na:A.s.rw q.2=([],q.2)) (nb:A.s.rw p.2=([],p.2)) (h1:p.2=0→∀ f ∈ onlyL q.1 p.1 ls,(apF A.s f).pr=0) (h2:q.2=0→∀ f ∈ onlyL p.1 q.1 ls,(apF A.s f).pr=0)
  (hb:restsA A q.2 p.2 (onlyL q.1 p.1 ls) (onlyL p.1 q.1 ls)=(e,A')) (he:e=0):
  ∃ G',Adv G A G' A'∧apRow A'.s (onlyL q.1 p.1 ls) q.2=apRow A'.s (onlyL p.1 q.1 ls) p.2:=by
 obtain⟨wo1,ro1⟩:=only_row ht hls hq
 obtain⟨wo2,ro2⟩:=only_row ht.symm hls hp
 have sp1:=labs_split (G:=p.1) (ri_nodup ht.rq.1) hq
 have sp2:=labs_split (G:=q.1) (ri_nodup ht.rp.1) hp
 have hd1:∀ f ∈ onlyL q.1 p.1 ls,f.lb≠[]∧¬ C f.lb∧f.lb ∉ labs p.1∧(f.pr=0→q.2≠0):=fun f hf=>by
  obtain⟨_,g2,g3⟩:=onlyL_mem hf
  obtain⟨c1,c2,c3⟩:=ht.rq.2.1 f g2
  exact⟨c1,c2,g3,c3⟩
 have hd2:∀ f ∈ onlyL p.1 q.1 ls,f.lb≠[]∧¬ C f.lb∧f.lb ∉ labs q.1∧(f.pr=0→p.2≠0):=fun f hf=>by
  obtain⟨_,g2,g3⟩:=onlyL_mem hf
  obtain⟨c1,c2,c3⟩:=ht.rp.2.1 f g2
  exact⟨c1,c2,g3,c3⟩
 generalize ho1:onlyL q.1 p.1 ls=o1 at *
 generalize ho2:onlyL p.1 q.1 ls=o2 at *
 have ri1:=ro1.1
 have ri2:=ro2.1
 have eq1:=ht.rq.2.2
 have ep1:=ht.rp.2.2
 have e1:=ro1.2.2
 have e2:=ro2.2.2
 unfold restsA at hb
 by_cases hab:q.2=p.2
 ·rw[if_pos hab] at hb
  split at hb
  ·cases hb;cases he
  ·rename_i hn
   cases hb
   refine⟨G,.refl h,?_⟩
   by_cases h0:0<q.2
   ·have hl:o1.length+o2.length=0:=Classical.byContradiction (fun hc=>hn ⟨h0,hc⟩)
    have z1:o1=[]:=List.eq_nil_of_length_eq_zero (by omega)
    have z2:o2=[]:=List.eq_nil_of_length_eq_zero (by omega)
    rw[z1,z2,hab]
   ·have hq0:q.2=0:=by rcases e1 with e1|⟨e1,_⟩<;> omega
    have hp0:p.2=0:=hab ▸ hq0
    have t1:=all_absent (N:=[]) (h1 hp0)
    have t2:=all_absent (N:=[]) (h2 hq0)
    unfold apRow
    rw[hq0,hp0,h.sw.ok]
    dsimp only
    rw[t1,t2]
 ·rw[if_neg hab] at hb
  have hRow:∀ {G':Ctx} {A2:Ab} {b:Int} {o:List Fd} (_:SubWf G' A2.s),(A2.s.rw b).2=0→(∀ f ∈ o,(apF A2.s f).pr=0)→apRow A2.s o b=apRow A2.s [] b:=fun hs hz hall=>by
   unfold apRow
   rw[hz,all_absent hall,apFs,List.nil_append]
  by_cases ha:q.2=0
  ·rw[if_pos ha] at hb
   rcases ep1 with e|⟨_,Lb,b1,b2,b3⟩
   ·exact absurd (ha.trans e.symm) hab
   ·obtain⟨r1,r2,_⟩:=restA_adv h b1 nb wo1 ⟨ri1,fun f hf=>⟨(hd1 f hf).1,fun hc=>((b3 _).1 hc).elim (hd1 f hf).2.1 (hd1 f hf).2.2.1,fun hz=>absurd ha ((hd1 f hf).2.2.2 hz)⟩,.inl rfl⟩ hb
    refine⟨G,r1,?_⟩
    have r2:=(r2 he).1
    have hz:(A'.s.rw p.2).2=0:=by
     have:=congrArg Prod.snd r2
     unfold apRow at this
     have z:=r1.ok.sw.ok
     rw[z] at this;exact this
    rw[ha,← r2]
    refine(hRow r1.ok.sw hz (fun f hf=>?_)).symm
    have:=h2 ha f hf
    rw[apF_pr] at this ⊢
    have e0:apF A'.s (apF A.s f)=apF A'.s f:=r1.farF h f
    have e3:=apF_pr A'.s (apF A.s f)
    rw[e0,apF_pr] at e3
    rw[e3]
    unfold pre
    rw[apF_pr,this,if_neg (by decide)]
  ·rw[if_neg ha] at hb
   by_cases hb0:p.2=0
   ·rw[if_pos hb0] at hb
    rcases eq1 with e|⟨_,La,a1,a2,a3⟩
    ·exact absurd e ha
    ·obtain⟨r1,r2,_⟩:=restA_adv h a1 na wo2 ⟨ri2,fun f hf=>⟨(hd2 f hf).1,fun hc=>((a3 _).1 hc).elim (hd2 f hf).2.1 (hd2 f hf).2.2.1,fun hz=>absurd hb0 ((hd2 f hf).2.2.2 hz)⟩,.inl rfl⟩ hb
     refine⟨G,r1,?_⟩
     have r2:=(r2 he).1
     have hz:(A'.s.rw q.2).2=0:=by
      have:=congrArg Prod.snd r2
      unfold apRow at this
      have z:=r1.ok.sw.ok
      rw[z] at this;exact this
     rw[hb0,← r2]
     refine hRow r1.ok.sw hz (fun f hf=>?_)
     have:=h1 hb0 f hf
     rw[apF_pr] at this ⊢
     have e0:apF A'.s (apF A.s f)=apF A'.s f:=r1.farF h f
     have e3:=apF_pr A'.s (apF A.s f)
     rw[e0,apF_pr] at e3
     rw[e3]
     unfold pre
     rw[apF_pr,this,if_neg (by decide)]
   ·rw[if_neg hb0] at hb
    rcases eq1 with e|⟨_,La,a1,a2,a3⟩
    ·exact absurd e ha
    rcases ep1 with e|⟨_,Lb,b1,b2,b3⟩
    ·exact absurd e hb0
    by_cases hl:o1.length+o2.length=0
    ·rw[if_pos hl] at hb
     have z1:o1=[]:=List.eq_nil_of_length_eq_zero (by omega)
     have z2:o2=[]:=List.eq_nil_of_length_eq_zero (by omega)
     have hsame:∀ x,x ∈ labs q.1↔x ∈ labs p.1:=fun x=>by
      rw[sp1 x,sp2 x,z1,z2]
      simp[labs,and_comm]
     obtain⟨r1,r2,_⟩:=restA_adv h a1 na (fs:=[]) trivial ⟨.nil,fun f hf=>(by cases hf),.inr ⟨h.pos _ (by rw[b1];simp),Lb,b1,b2,fun x=>⟨fun hx => .inl ((a3 x).2 (((b3 x).1 hx).imp id (hsame x).2)),fun hx=>(b3 x).2 (((a3 x).1 (hx.resolve_right (by simp[labs]))).imp id (hsame x).1)⟩⟩⟩ hb
     exact⟨G,r1,by rw[z1,z2];exact(r2 he).1⟩
    ·rw[if_neg hl] at hb
     dsimp only at hb
     obtain⟨hle,hok1⟩:=aok_fresh h k (mrgL La (labs o2)) (mrgL_ri _ _)
     generalize hG1:G.up (A.most+1) (.rw k (mrgL La (labs o2)))=G1 at *
     have hn1:G1 (A.most+1)= .rw k (mrgL La (labs o2)):=by rw[← hG1];exact up_self _ _ _
     have hc0:=cnt_fresh h
     have hn0:∀ b,A.s.rw b=([],b)→({ A with most:=A.most+1 }:Ab).s.rw b=([],b):=fun b hb=>hb
     generalize hA1:({ A with most:=A.most+1 }:Ab)=A1 at *
     have a1':G1 q.2 = .rw k La:=by rw[hle _ (by rw[a1];simp),a1]
     have b1':G1 p.2 = .rw k Lb:=by rw[hle _ (by rw[b1];simp),b1]
     cases hr1:restA A1 q.2 o2 (A.most+1)with
     | mk e1' A2 =>
     rw[hr1] at hb
     dsimp only at hb
     by_cases he1:e1'=0
     ·rw[if_neg (by simpa using he1)] at hb
      have ho2:RowOk G1 k (· ∈ La) o2 (A.most+1):=⟨ri2,fun f hf=>⟨(hd2 f hf).1,fun hc=>((a3 _).1 hc).elim (hd2 f hf).2.1 (hd2 f hf).2.2.1,fun _=>by have:=h.mo;omega⟩,.inr ⟨by have:=h.mo;omega,_,hn1,mrgL_ri _ _,fun x=>mrgL_mem⟩⟩
      obtain⟨r1,r2,r3⟩:=restA_adv hok1 a1' (hn0 _ na) (wfFs_le hle wo2) ho2 hr1
      obtain⟨r2,c2⟩:=r2 he1
      have nb2:=r3 p.2 (Ne.symm hab) (hn0 _ nb)
      have ho1:RowOk G1 k (· ∈ Lb) o1 (A.most+1):=by
       refine⟨ri1,fun f hf=>⟨(hd1 f hf).1,fun hc=>((b3 _).1 hc).elim (hd1 f hf).2.1 (hd1 f hf).2.2.1,fun _=>by have:=h.mo;omega⟩,.inr ⟨by have:=h.mo;omega,_,hn1,mrgL_ri _ _,fun x=>?_⟩⟩
       show x ∈ mrgL La (labs o2)↔x ∈ Lb∨x ∈ labs o1
       rw[mrgL_mem,a3 x,b3 x]
       have s1:=sp1 x
       have s2:=sp2 x
       constructor
       ·rintro((hx|hx)| hx)
        ·exact .inl (.inl hx)
        ·exact(s1.1 hx).elim (fun hx => .inl (.inr hx.2)) .inr
        ·exact .inl (.inr (s2.2 (.inr hx)))
       ·rintro((hx|hx)| hx)
        ·exact .inl (.inl hx)
        ·exact(s2.1 hx).elim (fun hx => .inl (.inr hx.2)) .inr
        ·exact .inl (.inr (s1.2 (.inr hx)))
      obtain⟨t1,t2,_⟩:=restA_adv r1.ok b1' nb2 (wfFs_le hle wo1) ho1 hb
      obtain⟨t2,c3⟩:=t2 he
      have hadv:=r1.trans t1
      refine⟨G1,⟨hle.trans hadv.le,hadv.ok,.inr ⟨?_,by omega⟩,by rw[hadv.ea,← hA1],by rw[hadv.eb,← hA1],by have:=hadv.mo;rw[← hA1] at this;dsimp only at this;omega⟩,?_⟩
      ·rcases hadv.ext with e|⟨⟨u,hu,e⟩,_⟩
       ·rw[e] at c3;omega
       ·exact⟨u,hu,by rw[e,← hA1]⟩
      ·have r2:=t1.sameR r2
       have hs:=hadv.ok.sw
       have nd1:(labs (o1++o2)).Nodup:=by
        rw[labs_app,List.nodup_append]
        refine⟨ri_nodup ri1,ri_nodup ri2,fun a ha b hb e=>?_⟩
        subst e
        obtain⟨f,hf,rfl⟩:=labs_mem.1 hb
        exact(hd2 f hf).2.2.1 ((sp1 _).2 (.inr ha))
       have hperm:(o1++o2).Perm (o2++o1):=List.perm_append_comm
       have nd2:(labs (o2++o1)).Nodup:=(List.Perm.map _ hperm).nodup_iff.1 nd1
       have hend:∀ (o:List Fd),(∀ x,x ∈ labs o↔x ∈ labs (o1++o2))→EndR G1 k (fun x=>(x ∈ mrgL La (labs o2)∧x ∉ labs (o1++o2))∨x ∈ labs o) (A.most+1):=fun o ho => .inr ⟨by have:=h.mo;omega,_,hn1,mrgL_ri _ _,fun x=>by
        show x ∈ mrgL La (labs o2)↔(x ∈ mrgL La (labs o2)∧x ∉ labs (o1++o2))∨x ∈ labs o
        rw[ho x]
        constructor
        ·intro hx
         by_cases hc:x ∈ labs (o1++o2)
         ·exact .inr hc
         ·exact .inl ⟨hx,hc⟩
        ·rintro(hx|hx)
         ·exact hx.1
         ·rw[labs_app,List.mem_append] at hx
          rcases hx with hx|hx
          ·exact mrgL_mem.2 (.inl ((a3 x).2 (.inr ((sp1 x).2 (.inr hx)))))
          ·exact mrgL_mem.2 (.inr hx)⟩
       rw[row_bind r2 (row_nodup hs (ri_nodup ri1) (e1.le hle)) (row_nodup hs nd1 (hend _ (fun _=>Iff.rfl))),row_bind t2 (row_nodup hs (ri_nodup ri2) (e2.le hle)) (row_nodup hs nd2 (hend _ (fun x=>(List.Perm.map _ hperm.symm).mem_iff)))]
       unfold apRow
       refine nrm_eq ?_ (row_nodup hs nd1 (hend _ (fun _=>Iff.rfl))) _
       rw[apFs_map,apFs_map]
       exact(hperm.map _).append_right _
     ·rw[if_pos (by simpa using he1)] at hb
      cases hb;exact absurd he he1
theorem ap_mk{s:Sub}{k v rest:Int}{args:List TyT}{fs:List Fd}(h1:k≠1)(h2:rwd k=true):ap s (.mk k v args fs rest)= .mk k v (apTs s args) (apRow s fs rest).1 (apRow s fs rest).2:=by
 rw[ap,if_neg h1,if_pos h2];rfl
theorem ap_mk'{s:Sub}{k v rest:Int}{args:List TyT}{fs:List Fd}(h1:k≠1)(h2:¬ rwd k=true):ap s (.mk k v args fs rest)= .mk k v (apTs s args) [] 0:=by
 rw[ap,if_neg h1,if_neg h2]
theorem RowOk.iff{G:Ctx}{k:Int}{C C':List UInt8→Prop}{fs:List Fd}{r:Int}(h:RowOk G k C fs r)(e:∀ x,C x↔C' x):RowOk G k C' fs r :=
 ⟨h.1,fun f hf=>⟨(h.2.1 f hf).1,fun hc=>(h.2.1 f hf).2.1 ((e _).2 hc),(h.2.1 f hf).2.2⟩,h.2.2.mono (fun x=>by rw[e x])⟩
theorem pre_cmp(u s:Sub)(f:Fd):pre (cmp u s) f=if (pre s f).1=2 then u.pr (pre s f).2 else pre s f:=by
 unfold pre
 by_cases h:f.pr=2
 ·rw[if_pos h,if_pos h,cmp_pr]
 ·rw[if_neg h,if_neg h,if_neg h]
theorem Adv.samePre{G G':Ctx}{A A':Ab}(h:Adv G A G' A'){f g:Fd}(e:pre A.s f=pre A.s g):pre A'.s f=pre A'.s g:=by
 rcases h.ext with e' | ⟨⟨u,hu,e'⟩,_⟩
 ·rw[e'];exact e
 ·rw[e',pre_cmp,pre_cmp,e]
theorem Adv.pre0{G G':Ctx}{A A':Ab}(h:Adv G A G' A'){f:Fd}(e:(pre A.s f).1=0):(pre A'.s f).1=0:=by
 rcases h.ext with e' | ⟨⟨u,hu,e'⟩,_⟩
 ·rw[e'];exact e
 ·rw[e',pre_cmp,e,if_neg (by decide),e]
abbrev Agr (s:Sub)(q p:List Fd×Int)(x:List UInt8):Prop :=
 (∀ f g,fnd x q.1=some f→fnd x p.1=some g→apF s f=apF s g)∧(∀ f,fnd x q.1=some f→fnd x p.1=none→p.2=0→(pre s f).1=0)∧(∀ g,fnd x q.1=none→fnd x p.1=some g→q.2=0→(pre s g).1=0)
theorem Adv.agr{G G':Ctx}{A A':Ab}(h:Adv G A G' A'){q p:List Fd×Int}{x:List UInt8}(e:Agr A.s q p x):Agr A'.s q p x :=
 ⟨fun f g h1 h2=>h.sameF (e.1 f g h1 h2),fun f h1 h2 h3=>h.pre0 (e.2.1 f h1 h2 h3),fun g h1 h2 h3=>h.pre0 (e.2.2 g h1 h2 h3)⟩
def PT(n:Nat):Prop:=∀ G A x y A',AOk G A→WfT G x→WfT G y→uni n A x y=some (0,A')→∃ G',Adv G A G' A'∧ap A'.s x=ap A'.s y
def PL(n:Nat):Prop:=∀ G A l m A',AOk G A→WfTs G l→WfTs G m→l.length=m.length→uniL n A l m=some (0,A')→∃ G',Adv G A G' A'∧apTs A'.s l=apTs A'.s m
def PRw(n:Nat):Prop:=∀ G A k C F ra Gs rb A',AOk G A→Two G k C (F,ra) (Gs,rb)→uniR n A F ra Gs rb=some (0,A')→∃ G',Adv G A G' A'∧apRow A'.s F ra=apRow A'.s Gs rb
def PM(n:Nat):Prop:=∀ G A q p ls A',AOk G A→WfFs G q.1→WfFs G p.1→uniM n A q p ls=some (0,A')→∃ G',Adv G A G' A'∧∀ x ∈ ls,Agr A'.s q p x
def PX(n:Nat):Prop:=∀ G A q p x A',AOk G A→WfFs G q.1→WfFs G p.1→uniX n A q p x=some (0,A')→∃ G',Adv G A G' A'∧Agr A'.s q p x
theorem pt_step{n:Nat}(hL:PL n)(hR:PRw n):PT (n+1):=by
 intro G A x y A' hA hx hy h
 have wx:=ap_wf hA.sw hx
 have wy:=ap_wf hA.sw hy
 have fx:=ap_fix hA.so x
 have fy:=ap_fix hA.so y
 rw[uni] at h
 generalize hX:ap A.s x=X at *
 generalize hY:ap A.s y=Y at *
 by_cases c1:X.k=1∧Y.k=1∧X.v=Y.v
 ·rw[if_pos c1] at h
  cases h
  refine⟨G,.refl hA,?_⟩
  rw[hX,hY,(var_of_fix fx c1.1).1,(var_of_fix fy c1.2.1).1,c1.2.2]
 ·rw[if_neg c1] at h
  have hvar:∀ {T:TyT},WfT G T→T.k=1→G T.v = .ty:=fun{T} hw hk=>by
   obtain⟨k,v,args,fs,rest⟩:=T
   rw[WfT] at hw
   exact(hw.2.1 hk).2
  by_cases c2:X.k=1
  ·rw[if_pos c2] at h
   obtain⟨e1,e2⟩:=var_of_fix fx c2
   obtain⟨r1,r2⟩:=bindA_adv hA (hvar wx c2) e2 fy wy (Option.some.inj h)
   exact⟨G,r1,r2 rfl x y (by rw[hX];exact e1) hY⟩
  ·rw[if_neg c2] at h
   by_cases c3:Y.k=1
   ·rw[if_pos c3] at h
    obtain⟨e1,e2⟩:=var_of_fix fy c3
    obtain⟨r1,r2⟩:=bindA_adv hA (hvar wy c3) e2 fx wx (Option.some.inj h)
    exact⟨G,r1,(r2 rfl y x (by rw[hY];exact e1) hX).symm⟩
   ·rw[if_neg c3] at h
    by_cases c4:X.k≠Y.k
    ·rw[if_pos c4] at h;cases h
    ·rw[if_neg c4] at h
     obtain⟨k,v,args,fs,rest⟩:=X
     obtain⟨k',v',args',fs',rest'⟩:=Y
     have c4:k=k':=Decidable.not_not.1 c4
     subst c4
     have c2:k≠1:=c2
     rw[WfT] at wx wy
     have hlen:args.length=args'.length:=Option.some.inj (wx.1.symm.trans wy.1)
     have hvv:v=v':=(wx.2.2.1 c2).trans (wy.2.2.1 c2).symm
     subst hvv
     rw[show(TyT.mk k v args fs rest).args=args from rfl,show(TyT.mk k v args fs rest).fs=fs from rfl,show(TyT.mk k v args fs rest).rest=rest from rfl,show(TyT.mk k v args' fs' rest').args=args' from rfl,show(TyT.mk k v args' fs' rest').fs=fs' from rfl,show(TyT.mk k v args' fs' rest').rest=rest' from rfl,show(TyT.mk k v args fs rest).k=k from rfl] at h
     cases hu:uniL n A args args' with
     | none=>rw[hu] at h;cases h
     | some r =>
      obtain⟨e,A1⟩:=r
      rw[hu] at h
      dsimp only at h
      by_cases he:e=0
      ·subst he
       rw[if_neg (by simp)] at h
       obtain⟨G1,a1,s1⟩:=hL G A args args' A1 hA wx.2.2.2.1 wy.2.2.2.1 hlen hu
       by_cases hw:rwd k=true
       ·rw[if_pos hw] at h
        have rx:=wx.2.2.2.2.2
        have ry:=wy.2.2.2.2.2
        rw[if_pos hw] at rx ry
        obtain⟨G2,a2,s2⟩:=hR G1 A1 k (fun _=>False) fs rest fs' rest' A' a1.ok ⟨wfFs_le a1.le wx.2.2.2.2.1,wfFs_le a1.le wy.2.2.2.2.1,rx.le a1.le,ry.le a1.le⟩ h
        have a:=a1.trans a2
        refine⟨G2,a,?_⟩
        rw[← a.far hA x,← a.far hA y,hX,hY,ap_mk c2 hw,ap_mk c2 hw,a2.sameTs s1,s2]
       ·rw[if_neg hw] at h
        cases h
        refine⟨G1,a1,?_⟩
        rw[← a1.far hA x,← a1.far hA y,hX,hY,ap_mk' c2 hw,ap_mk' c2 hw,s1]
      ·rw[if_pos he] at h;cases h;exact absurd rfl he
theorem pl_step{n:Nat}(hT:PT n)(hL:PL n):PL (n+1):=by
 intro G A l m A' hA hl hm hlen h
 cases l with
 | nil =>
  cases m with
  | nil=>rw[uniL] at h;cases h;exact⟨G,.refl hA,rfl⟩;all_goals simp
  | cons y m=>cases hlen
 | cons x l =>
  cases m with
  | nil=>cases hlen
  | cons y m =>
   rw[uniL] at h
   rw[WfTs] at hl hm
   cases hu:uni n A x y with
   | none=>rw[hu] at h;cases h
   | some r =>
    obtain⟨e,A1⟩:=r
    rw[hu] at h
    dsimp only at h
    by_cases he:e=0
    ·subst he
     rw[if_neg (by simp)] at h
     obtain⟨G1,a1,s1⟩:=hT G A x y A1 hA hl.1 hm.1 hu
     obtain⟨G2,a2,s2⟩:=hL G1 A1 l m A' a1.ok (wfTs_le a1.le hl.2) (wfTs_le a1.le hm.2) (by simpa using hlen) h
     exact⟨G2,a1.trans a2,by rw[apTs,apTs,a2.same s1,s2]⟩
    ·rw[if_pos he] at h;cases h;exact absurd rfl he
theorem pm_step{n:Nat}(hX:PX n)(hM:PM n):PM (n+1):=by
 intro G A q p ls A' hA hq hp h
 cases ls with
 | nil=>rw[uniM] at h;cases h;exact⟨G,.refl hA,fun x hx=>by cases hx⟩
 | cons x ls =>
  rw[uniM] at h
  cases hu:uniX n A q p x with
  | none=>rw[hu] at h;cases h
  | some r =>
   obtain⟨e,A1⟩:=r
   rw[hu] at h
   dsimp only at h
   by_cases he:e=0
   ·subst he
    rw[if_neg (by simp)] at h
    obtain⟨G1,a1,s1⟩:=hX G A q p x A1 hA hq hp hu
    obtain⟨G2,a2,s2⟩:=hM G1 A1 q p ls A' a1.ok (wfFs_le a1.le hq) (wfFs_le a1.le hp) h
    exact⟨G2,a1.trans a2,fun z hz=>by
     rcases List.mem_cons.1 hz with rfl|hz
     ·exact a2.agr s1
     ·exact s2 z hz⟩
   ·rw[if_pos he] at h;cases h;exact absurd rfl he
theorem fnd_wf{G:Ctx}{l:List Fd}(h:WfFs G l){x:List UInt8}{f:Fd}(hf:fnd x l=some f):WfF G f∧f.lb=x:=⟨(wfFs_iff G _).1 h f (fnd_some hf).1,(fnd_some hf).2⟩
theorem px_step{n:Nat}(hT:PT n):PX (n+1):=by
 intro G A q p x A' hA hq hp h
 rw[uniX] at h
 cases h1:fnd x q.1 with
 | none =>
  cases h2:fnd x p.1 with
  | none =>
   rw[h1,h2] at h
   cases h
   exact⟨G,.refl hA,(fun f g k1=>by rw[h1] at k1;cases k1),(fun f k1=>by rw[h1] at k1;cases k1),(fun g _ k2=>by rw[h2] at k2;cases k2)⟩
  | some g =>
   rw[h1,h2] at h
   dsimp only at h
   obtain⟨wg,lg⟩:=fnd_wf hp h2
   by_cases hz:q.2=0
   ·rw[if_pos hz] at h
    obtain⟨r1,r2⟩:=absA_adv hA wg (Option.some.inj h)
    exact⟨G,r1,(fun f g k1=>by rw[h1] at k1;cases k1),(fun f k1=>by rw[h1] at k1;cases k1),(fun g' _ k2 _=>by rw[h2] at k2;cases k2;rw[← apF_pr];exact r2 rfl)⟩
   ·rw[if_neg hz] at h
    cases h
    exact⟨G,.refl hA,(fun f g k1=>by rw[h1] at k1;cases k1),(fun f k1=>by rw[h1] at k1;cases k1),fun g _ _ k3=>absurd k3 hz⟩
 | some f =>
  obtain⟨wf,lf⟩:=fnd_wf hq h1
  cases h2:fnd x p.1 with
  | none =>
   rw[h1,h2] at h
   dsimp only at h
   by_cases hz:p.2=0
   ·rw[if_pos hz] at h
    obtain⟨r1,r2⟩:=absA_adv hA wf (Option.some.inj h)
    exact⟨G,r1,(fun f g _ k2=>by rw[h2] at k2;cases k2),(fun f' k1 _ _=>by rw[h1] at k1;cases k1;rw[← apF_pr];exact r2 rfl),(fun g k1=>by rw[h1] at k1;cases k1)⟩
   ·rw[if_neg hz] at h
    cases h
    exact⟨G,.refl hA,(fun f g _ k2=>by rw[h2] at k2;cases k2),fun f _ _ k3=>absurd k3 hz,(fun g k1=>by rw[h1] at k1;cases k1)⟩
  | some g =>
   obtain⟨wg,lg⟩:=fnd_wf hp h2
   rw[h1,h2] at h
   dsimp only at h
   cases hr:presA A (apF A.s f) (apF A.s g)with
   | mk e A1 =>
   rw[hr] at h
   dsimp only at h
   obtain⟨a1,s1⟩:=presA_adv hA wf wg hr
   have done:∀ {G2 A2},Adv G A G2 A2→pre A2.s f=pre A2.s g→((pre A2.s f).1≠0→ap A2.s f.t=ap A2.s g.t)→Agr A2.s q p x:=fun _ e1 e2=>by
    refine⟨fun f' g' k1 k2=>?_,fun f' _ k2=>(by rw[h2] at k2;cases k2),fun g' k1=>(by rw[h1] at k1;cases k1)⟩
    rw[h1] at k1;cases k1
    rw[h2] at k2;cases k2
    rw[apF_pre,apF_pre,e1,lf,lg]
    split
    ·rfl
    ·rename_i hne
     rw[e2 (by rw[e1];exact hne)]
   by_cases hc:e≠0∨(apF A.s f).pr=0∨(apF A.s g).pr=0
   ·rw[if_pos hc] at h
    cases h
    refine⟨G,a1,done a1 (s1 rfl) (fun hne=>?_)⟩
    rcases hc with hc|hc|hc
    ·exact absurd rfl hc
    ·rw[apF_pr] at hc;exact absurd (a1.pre0 hc) hne
    ·rw[apF_pr] at hc;rw[s1 rfl] at hne;exact absurd (a1.pre0 hc) hne
   ·rw[if_neg hc] at h
    have he:e=0:=Classical.byContradiction (fun h=>hc (.inl h))
    have pf:(pre A.s f).1≠0:=fun h=>hc (.inr (.inl (by rw[apF_pr];exact h)))
    have pg:(pre A.s g).1≠0:=fun h=>hc (.inr (.inr (by rw[apF_pr];exact h)))
    rw[apF_t _ _ pf,apF_t _ _ pg] at h
    have wt:∀ {f:Fd},WfF G f→(pre A.s f).1≠0→WfT G f.t:=fun{f} w hne=>by
     rcases wfF_pre w with⟨e1,e2,_⟩| ⟨_,_,e3⟩| ⟨_,_,_,e4⟩
     ·exfalso;apply hne;unfold pre;rw[if_neg (by omega)];exact e1
     ·exact e3
     ·exact e4
    obtain⟨G2,a2,s2⟩:=hT G A1 _ _ A' a1.ok (wfT_le a1.le (ap_wf hA.sw (wt wf pf))) (wfT_le a1.le (ap_wf hA.sw (wt wg pg))) h
    have a:=a1.trans a2
    rw[a.far hA,a.far hA] at s2
    exact⟨G2,a,done a (a2.samePre (s1 he)) (fun _=>s2)⟩
theorem pr_step{n:Nat}(hM:PM n)(hR:PRw n):PRw (n+1):=by
 intro G A k C F ra Gs rb A' hA ht h
 rw[uniR] at h
 have wq:=apRow_wf hA.sw ht.wq ht.rq
 have wp:=apRow_wf hA.sw ht.wp ht.rp
 have fq:∀ {G' A'},Adv G A G' A'→apRow A'.s (apRow A.s F ra).1 (apRow A.s F ra).2=apRow A'.s F ra:=fun a=>a.farR hA F ra
 have fp:∀ {G' A'},Adv G A G' A'→apRow A'.s (apRow A.s Gs rb).1 (apRow A.s Gs rb).2=apRow A'.s Gs rb:=fun a=>a.farR hA Gs rb
 dsimp only at h wq wp
 generalize apRow A.s F ra=q at *
 generalize apRow A.s Gs rb=p at *
 have t0:Two G k C q p:=⟨wq.1,wp.1,wq.2,wp.2⟩
 cases hu:uniM n A q p (lsOf q.1 p.1)with
 | none=>rw[hu] at h;cases h
 | some r =>
  obtain⟨e,A1⟩:=r
  rw[hu] at h
  dsimp only at h
  by_cases he:e=0
  ·subst he
   rw[if_neg (by simp)] at h
   obtain⟨G1,a1,s1⟩:=hM G A q p _ A1 hA t0.wq t0.wp hu
   have t1:=t0.le a1.le
   have hls:=lsOf_ri q.1 p.1
   have hq:∀ x,x ∈ labs q.1→x ∈ lsOf q.1 p.1:=fun x hx=>lsOf_mem.2 (.inl hx)
   have hp:∀ x,x ∈ labs p.1→x ∈ lsOf q.1 p.1:=fun x hx=>lsOf_mem.2 (.inr hx)
   generalize lsOf q.1 p.1=ls at *
   obtain⟨w1,o1⟩:=only_row t1 hls hq
   obtain⟨w2,o2⟩:=only_row t1.symm hls hp
   have hjoin:∀ {G' A'},Adv G1 A1 G' A'→apRow A'.s (onlyL q.1 p.1 ls) q.2=apRow A'.s (onlyL p.1 q.1 ls) p.2→∃ G',Adv G A G' A'∧apRow A'.s F ra=apRow A'.s Gs rb:=fun{G2 A2} a2 e2=>by
    have a:=a1.trans a2
    refine⟨G2,a,?_⟩
    rw[← fq a,← fp a]
    exact rows_join a.ok.sw (t1.le a2.le) hls hq hp (fun x hx f g k1 k2=>a2.sameF ((s1 x hx).1 f g k1 k2)) e2
   by_cases htd:(told A1 q.2||told A1 p.2)=true
   ·rw[if_pos htd] at h
    obtain⟨G2,a2,e2⟩:=hR G1 A1 k _ _ _ _ _ A' a1.ok ⟨w1,w2,o1,o2.iff (fun x=>by rw[and_comm])⟩ h
    exact hjoin a2 e2
   ·rw[if_neg htd] at h
    rw[Bool.not_eq_true,Bool.or_eq_false_iff] at htd
    obtain⟨G2,a2,e2⟩:=restsA_adv a1.ok t1 hls hq hp (not_told a1.ok t1.rq.2.2 htd.1) (not_told a1.ok t1.rp.2.2 htd.2) (fun hz f hf=>by
     obtain⟨k1,k2,k3⟩:=onlyL_mem hf
     rw[apF_pr]
     exact(s1 _ k1).2.1 f (fnd_of (ri_nodup t1.rq.1) k2) (fnd_none.2 k3) hz) (fun hz f hf=>by
     obtain⟨k1,k2,k3⟩:=onlyL_mem hf
     rw[apF_pr]
     exact(s1 _ k1).2.2 f (fnd_none.2 k3) (fnd_of (ri_nodup t1.rp.1) k2) hz) (Option.some.inj h) rfl
    exact hjoin a2 e2
  ·rw[if_pos he] at h;cases h;exact absurd rfl he
theorem uni_all:∀ n,PT n∧PL n∧PRw n∧PM n∧PX n
 | 0=>⟨(fun _ _ _ _ _ _ _ _ h=>by rw[uni] at h;cases h),(fun _ _ _ _ _ _ _ _ _ h=>by rw[uniL] at h;cases h),(fun _ _ _ _ _ _ _ _ _ _ _ h=>by rw[uniR] at h;cases h),(fun _ _ _ _ _ _ _ _ _ h=>by rw[uniM] at h;cases h),(fun _ _ _ _ _ _ _ _ _ h=>by rw[uniX] at h;cases h)⟩
 | n+1 =>
  let ⟨h1,h2,h3,h4,h5⟩:=uni_all n
  ⟨pt_step h2 h3,pl_step h1 h2,pr_step h4 h3,pm_step h5 h4,px_step h1⟩
theorem Unify_same{G:Ctx}{A A':Ab}{n:Nat}{m:Int}{a b:TyT}(h:AOk G ⟨A.s,m,a,b⟩)(hu:Unify n A a b m=some (0,A')):∃ G',Adv G ⟨A.s,m,a,b⟩ G' A'∧ap A'.s a=ap A'.s b:=by
 unfold Unify at hu
 dsimp only at hu
 by_cases hg:Ab.grown ⟨A.s,m,a,b⟩≠0
 ·rw[if_pos hg] at hu
  exact absurd (Prod.mk.inj (Option.some.inj hu)).1 hg
 ·rw[if_neg hg] at hu
  exact(uni_all n).1 G _ a b A' h h.wa h.wb hu
def MoT(n:Nat):Prop:=∀ A x y r,uni n A x y=some r→uni (n+1) A x y=some r
def MoL(n:Nat):Prop:=∀ A l m r,uniL n A l m=some r→uniL (n+1) A l m=some r
def MoR(n:Nat):Prop:=∀ A F ra G rb r,uniR n A F ra G rb=some r→uniR (n+1) A F ra G rb=some r
def MoM(n:Nat):Prop:=∀ A q p ls r,uniM n A q p ls=some r→uniM (n+1) A q p ls=some r
def MoX(n:Nat):Prop:=∀ A q p x r,uniX n A q p x=some r→uniX (n+1) A q p x=some r
theorem mo_all:∀ n,MoT n∧MoL n∧MoR n∧MoM n∧MoX n
 | 0=>⟨(fun _ _ _ _ h=>by rw[uni] at h;cases h),(fun _ _ _ _ h=>by rw[uniL] at h;cases h),(fun _ _ _ _ _ _ h=>by rw[uniR] at h;cases h),(fun _ _ _ _ _ h=>by rw[uniM] at h;cases h),(fun _ _ _ _ _ h=>by rw[uniX] at h;cases h)⟩
 | n+1=>by
  obtain⟨hT,hL,hR,hM,hX⟩:=mo_all n
  refine⟨fun A x y r h=>?_,fun A l m r h=>?_,fun A F ra G rb r h=>?_,fun A q p ls r h=>?_,fun A q p x r h=>?_⟩
  ·rw[uni] at h ⊢
   split at h
   ·rename_i c;rw[if_pos c];exact h
   ·rename_i c1;rw[if_neg c1]
    split at h
    ·rename_i c;rw[if_pos c];exact h
    ·rename_i c2;rw[if_neg c2]
     split at h
     ·rename_i c;rw[if_pos c];exact h
     ·rename_i c3;rw[if_neg c3]
      split at h
      ·rename_i c;rw[if_pos c];exact h
      ·rename_i c4;rw[if_neg c4]
       cases hu:uniL n A (ap A.s x).args (ap A.s y).args with
       | none=>rw[hu] at h;cases h
       | some q =>
        obtain⟨e,A1⟩:=q
        rw[hu] at h
        rw[hL _ _ _ _ hu]
        dsimp only at h ⊢
        split at h
        ·rename_i c;rw[if_pos c];exact h
        ·rename_i c5;rw[if_neg c5]
         split at h
         ·rename_i c;rw[if_pos c];exact hR _ _ _ _ _ _ h
         ·rename_i c;rw[if_neg c];exact h
  ·cases l with
   | nil=>rw[uniL] at h ⊢ <;> first|exact h|simp
   | cons x l =>
    cases m with
    | nil=>rw[uniL] at h ⊢ <;> first|exact h|simp
    | cons y m =>
     rw[uniL] at h ⊢
     cases hu:uni n A x y with
     | none=>rw[hu] at h;cases h
     | some q =>
      obtain⟨e,A1⟩:=q
      rw[hu] at h
      rw[hT _ _ _ _ hu]
      dsimp only at h ⊢
      split at h
      ·rename_i c;rw[if_pos c];exact h
      ·rename_i c;rw[if_neg c];exact hL _ _ _ _ h
  ·rw[uniR] at h ⊢
   cases hu:uniM n A (apRow A.s F ra) (apRow A.s G rb) (lsOf (apRow A.s F ra).1 (apRow A.s G rb).1)with
   | none=>rw[hu] at h;cases h
   | some q =>
    obtain⟨e,A1⟩:=q
    rw[hu] at h
    rw[hM _ _ _ _ _ hu]
    dsimp only at h ⊢
    split at h
    ·rename_i c;rw[if_pos c];exact h
    ·rename_i c;rw[if_neg c]
     split at h
     ·rename_i c2;rw[if_pos c2];exact hR _ _ _ _ _ _ h
     ·rename_i c2;rw[if_neg c2];exact h
  ·cases ls with
   | nil=>rw[uniM] at h ⊢;exact h
   | cons x ls =>
    rw[uniM] at h ⊢
    cases hu:uniX n A q p x with
    | none=>rw[hu] at h;cases h
    | some r1 =>
     obtain⟨e,A1⟩:=r1
     rw[hu] at h
     rw[hX _ _ _ _ _ hu]
     dsimp only at h ⊢
     split at h
     ·rename_i c;rw[if_pos c];exact h
     ·rename_i c;rw[if_neg c];exact hM _ _ _ _ _ h
  ·rw[uniX] at h ⊢
   cases h1:fnd x q.1 with
   | none =>
    rw[h1] at h
    cases h2:fnd x p.1 <;>(rw[h2] at h;exact h)
   | some f =>
    rw[h1] at h
    cases h2:fnd x p.1 with
    | none=>rw[h2] at h;exact h
    | some g =>
     rw[h2] at h
     dsimp only at h ⊢
     split at h
     ·rename_i c;rw[if_pos c];exact h
     ·rename_i c;rw[if_neg c];exact hT _ _ _ _ h
theorem uni_mono{n m:Nat}(h:n≤m){A:Ab}{x y:TyT}{r:Int×Ab}(k:uni n A x y=some r):uni m A x y=some r:=by
 induction h with
 | refl=>exact k
 | step _ ih=>exact(mo_all _).1 _ _ _ _ ih
theorem uniL_mono{n m:Nat}(h:n≤m){A:Ab}{x y:List TyT}{r:Int×Ab}(k:uniL n A x y=some r):uniL m A x y=some r:=by
 induction h with
 | refl=>exact k
 | step _ ih=>exact(mo_all _).2.1 _ _ _ _ ih
theorem uniR_mono{n m:Nat}(h:n≤m){A:Ab}{F G:List Fd}{ra rb:Int}{r:Int×Ab}(k:uniR n A F ra G rb=some r):uniR m A F ra G rb=some r:=by
 induction h with
 | refl=>exact k
 | step _ ih=>exact(mo_all _).2.2.1 _ _ _ _ _ _ ih
theorem uniM_mono{n m:Nat}(h:n≤m){A:Ab}{q p:List Fd×Int}{ls:List (List UInt8)}{r:Int×Ab}(k:uniM n A q p ls=some r):uniM m A q p ls=some r:=by
 induction h with
 | refl=>exact k
 | step _ ih=>exact(mo_all _).2.2.2.1 _ _ _ _ _ ih
theorem uniX_mono{n m:Nat}(h:n≤m){A:Ab}{q p:List Fd×Int}{x:List UInt8}{r:Int×Ab}(k:uniX n A q p x=some r):uniX m A q p x=some r:=by
 induction h with
 | refl=>exact k
 | step _ ih=>exact(mo_all _).2.2.2.2 _ _ _ _ _ ih
def HC(c:Nat):Prop:=(∀ G A x y,AOk G A→WfT G x→WfT G y→cnt A<c→∃ n r,uni n A x y=some r)∧(∀ G A k C F ra Gs rb,AOk G A→Two G k C (F,ra) (Gs,rb)→cnt A<c→∃ n r,uniR n A F ra Gs rb=some r)
theorem pr_ne{G:Ctx}{A:Ab}{f:Fd}(w:WfF G f)(hne:(pre A.s f).1≠0):WfT G f.t:=by
 rcases wfF_pre w with⟨e1,e2,_⟩| ⟨_,_,e3⟩| ⟨_,_,_,e4⟩
 ·exfalso;apply hne;unfold pre;rw[if_neg (by omega)];exact e1
 ·exact e3
 ·exact e4
theorem end_X{c:Nat}(hc:HC c){G:Ctx}{A:Ab}{q p:List Fd×Int}{x:List UInt8}(hA:AOk G A)(hq:WfFs G q.1)(hp:WfFs G p.1)(hcn:cnt A≤c)
  (U:cnt A<c∨∀ f ∈ q.1,∀ g ∈ p.1,(pre A.s f).1≠0→(pre A.s g).1≠0→∃ n r,uni n A (ap A.s f.t) (ap A.s g.t)=some r):∃ n r,uniX n A q p x=some r:=by
 cases h1:fnd x q.1 with
 | none =>
  cases h2:fnd x p.1 with
  | none=>exact⟨1,_,by rw[uniX,h1,h2]⟩
  | some g=>exact⟨1,_,by rw[uniX,h1,h2]⟩
 | some f =>
  cases h2:fnd x p.1 with
  | none=>exact⟨1,_,by rw[uniX,h1,h2]⟩
  | some g =>
   obtain⟨wf,_⟩:=fnd_wf hq h1
   obtain⟨wg,_⟩:=fnd_wf hp h2
   cases hr:presA A (apF A.s f) (apF A.s g)with
   | mk e A1 =>
   obtain⟨a1,_⟩:=presA_adv hA wf wg hr
   by_cases hcn1:e≠0∨(apF A.s f).pr=0∨(apF A.s g).pr=0
   ·exact⟨1,_,by rw[uniX,h1,h2];dsimp only;rw[hr];dsimp only;rw[if_pos hcn1]⟩
   ·have pf:(pre A.s f).1≠0:=fun h=>hcn1 (.inr (.inl (by rw[apF_pr];exact h)))
    have pg:(pre A.s g).1≠0:=fun h=>hcn1 (.inr (.inr (by rw[apF_pr];exact h)))
    have key:∃ n r,uni n A1 (ap A.s f.t) (ap A.s g.t)=some r:=by
     have w1:=wfT_le a1.le (ap_wf hA.sw (pr_ne wf pf))
     have w2:=wfT_le a1.le (ap_wf hA.sw (pr_ne wg pg))
     rcases a1.ext with e1|⟨_,e1⟩
     ·subst e1
      rcases U with U|U
      ·exact hc.1 G _ _ _ a1.ok w1 w2 U
      ·exact U f (fnd_some h1).1 g (fnd_some h2).1 pf pg
     ·exact hc.1 _ _ _ _ a1.ok w1 w2 (by omega)
    obtain⟨n,r,hn⟩:=key
    refine⟨n+1,r,?_⟩
    rw[uniX,h1,h2]
    dsimp only
    rw[hr]
    dsimp only
    rw[if_neg hcn1,apF_t _ _ pf,apF_t _ _ pg]
    exact hn
theorem end_M{c:Nat}(hc:HC c){q p:List Fd×Int}:∀ (ls:List (List UInt8)){G:Ctx}{A:Ab},AOk G A→WfFs G q.1→WfFs G p.1→cnt A≤c →
  (cnt A<c∨∀ f ∈ q.1,∀ g ∈ p.1,(pre A.s f).1≠0→(pre A.s g).1≠0→∃ n r,uni n A (ap A.s f.t) (ap A.s g.t)=some r)→∃ n r,uniM n A q p ls=some r
 | [],_,_,_,_,_,_,_=>⟨1,_,by rw[uniM]⟩
 | x::ls,G,A,hA,hq,hp,hcn,U=>by
  obtain⟨n,⟨e,A1⟩,hn⟩:=end_X (x:=x) hc hA hq hp hcn U
  by_cases he:e=0
  ·subst he
   obtain⟨G1,a1,_⟩:=(uni_all n).2.2.2.2 G A q p x A1 hA hq hp hn
   have hU:cnt A1<c∨∀ f ∈ q.1,∀ g ∈ p.1,(pre A1.s f).1≠0→(pre A1.s g).1≠0→∃ n r,uni n A1 (ap A1.s f.t) (ap A1.s g.t)=some r:=by
    rcases a1.ext with e1|⟨_,e1⟩
    ·rw[e1];exact U
    ·left;omega
   obtain⟨m,r,hm⟩:=end_M hc ls a1.ok (wfFs_le a1.le hq) (wfFs_le a1.le hp) (Nat.le_trans a1.cnt hcn) hU
   refine⟨max n m+1,r,?_⟩
   rw[uniM,uniX_mono (Nat.le_max_left n m) hn]
   dsimp only
   rw[if_neg (by simp)]
   exact uniM_mono (Nat.le_max_right n m) hm
  ·exact⟨n+1,_,by rw[uniM,hn];dsimp only;rw[if_pos he]⟩
theorem end_L{c:Nat}(hc:HC c):∀ (l m:List TyT){G:Ctx}{A:Ab},AOk G A→WfTs G l→WfTs G m→l.length=m.length→cnt A≤c→(cnt A<c∨∀ x ∈ l,∀ y ∈ m,∃ n r,uni n A x y=some r)→∃ n r,uniL n A l m=some r
 | [],[],_,_,_,_,_,_,_,_=>⟨1,_,by rw[uniL];simp⟩
 | [],_::_,_,_,_,_,_,h,_,_=>by cases h
 | _::_,[],_,_,_,_,_,h,_,_=>by cases h
 | x::l,y::m,G,A,hA,hl,hm,hlen,hcn,U=>by
  rw[WfTs] at hl hm
  have key:∃ n r,uni n A x y=some r:=by
   rcases U with U|U
   ·exact hc.1 G A x y hA hl.1 hm.1 U
   ·exact U x (by simp) y (by simp)
  obtain⟨n,⟨e,A1⟩,hn⟩:=key
  by_cases he:e=0
  ·subst he
   obtain⟨G1,a1,_⟩:=(uni_all n).1 G A x y A1 hA hl.1 hm.1 hn
   have hU:cnt A1<c∨∀ x ∈ l,∀ y ∈ m,∃ n r,uni n A1 x y=some r:=by
    rcases a1.ext with e1|⟨_,e1⟩
    ·rw[e1];exact U.imp id (fun U x hx y hy=>U x (by simp[hx]) y (by simp[hy]))
    ·left;omega
   obtain⟨k,r,hk⟩:=end_L hc l m a1.ok (wfTs_le a1.le hl.2) (wfTs_le a1.le hm.2) (by simpa using hlen) (Nat.le_trans a1.cnt hcn) hU
   refine⟨max n k+1,r,?_⟩
   rw[uniL,uni_mono (Nat.le_max_left n k) hn]
   dsimp only
   rw[if_neg (by simp)]
   exact uniL_mono (Nat.le_max_right n k) hk
  ·exact⟨n+1,_,by rw[uniL,hn];dsimp only;rw[if_pos he]⟩
theorem end_R{c:Nat}(hc:HC c){G:Ctx}{A:Ab}{k:Int}{C:List UInt8→Prop}{F Gs:List Fd}{ra rb:Int}(hA:AOk G A)(ht:Two G k C (F,ra) (Gs,rb))(hcn:cnt A≤c)
  (U:cnt A<c∨∀ f ∈ (apRow A.s F ra).1,∀ g ∈ (apRow A.s Gs rb).1,(pre A.s f).1≠0→(pre A.s g).1≠0→∃ n r,uni n A (ap A.s f.t) (ap A.s g.t)=some r):∃ n r,uniR n A F ra Gs rb=some r:=by
 have wq:=apRow_wf hA.sw ht.wq ht.rq
 have wp:=apRow_wf hA.sw ht.wp ht.rp
 have fq:=(apRow_fix hA.so F ra).2.1
 have fp:=(apRow_fix hA.so Gs rb).2.1
 dsimp only at wq wp
 have hun:∀ n,uniR (n+1) A F ra Gs rb=_:=fun n=>uniR.eq_2 A F ra Gs rb n
 generalize apRow A.s F ra=q at *
 generalize apRow A.s Gs rb=p at *
 obtain⟨n,⟨e,A1⟩,hn⟩:=end_M hc (lsOf q.1 p.1) hA wq.1 wp.1 hcn U
 by_cases he:e=0
 ·subst he
  obtain⟨G1,a1,s1⟩:=(uni_all n).2.2.2.1 G A q p _ A1 hA wq.1 wp.1 hn
  by_cases htd:(told A1 q.2||told A1 p.2)=true
  ·have hlt:cnt A1<c:=by
    rcases a1.ext with e1|⟨_,e1⟩
    ·exfalso
     rw[e1] at htd
     unfold told at htd
     rw[fq,fp] at htd
     simp at htd
    ·omega
   have t1:Two G1 k C q p:=(⟨wq.1,wp.1,wq.2,wp.2⟩:Two G k C q p).le a1.le
   have hls:=lsOf_ri q.1 p.1
   obtain⟨w1,o1⟩:=only_row t1 hls (fun x hx=>lsOf_mem.2 (.inl hx))
   obtain⟨w2,o2⟩:=only_row t1.symm hls (fun x hx=>lsOf_mem.2 (.inr hx))
   obtain⟨m,r,hm⟩:=hc.2 G1 A1 k _ _ _ _ _ a1.ok ⟨w1,w2,o1,o2.iff (fun x=>by rw[and_comm])⟩ hlt
   refine⟨max n m+1,r,?_⟩
   rw[hun,uniM_mono (Nat.le_max_left n m) hn]
   dsimp only
   rw[if_neg (by simp),if_pos htd]
   exact uniR_mono (Nat.le_max_right n m) hm
  ·exact⟨n+1,_,by rw[hun,hn];dsimp only;rw[if_neg (by simp),if_neg htd]⟩
 ·exact⟨n+1,_,by rw[hun,hn];dsimp only;rw[if_pos he]⟩
theorem szTs_mem{x:TyT}:∀ {l:List TyT},x ∈ l→szT x≤szTs l
 | [],h=>by cases h
 | y::l,h=>by
  rw[szTs]
  rcases List.mem_cons.1 h with rfl|h
  ·omega
  ·have:=szTs_mem h;omega
theorem szFs_mem{f:Fd}:∀ {l:List Fd},f ∈ l→f.pr≠0→szT f.t<szFs l
 | [],h,_=>by cases h
 | y::l,h,hp=>by
  rw[szFs]
  rcases List.mem_cons.1 h with rfl|h
  ·obtain⟨lb,pr,p,t⟩:=f
   have hp:pr≠0:=hp
   rw[szF,if_neg hp];dsimp only;omega
  ·have:=szFs_mem h hp;omega
theorem end_T{c:Nat}(hc:HC c):∀ (z:Nat){G:Ctx}{A:Ab}{x y:TyT},AOk G A→WfT G x→WfT G y→cnt A≤c→szT (ap A.s x)+szT (ap A.s y)<z→∃ n r,uni n A x y=some r
 | 0,_,_,_,_,_,_,_,_,h=>by omega
 | z+1,G,A,x,y,hA,hx,hy,hcn,hz=>by
  have wx:=ap_wf hA.sw hx
  have wy:=ap_wf hA.sw hy
  have fx:=ap_fix hA.so x
  have fy:=ap_fix hA.so y
  have hun:∀ n,uni (n+1) A x y=_:=fun n=>uni.eq_2 A x y n
  generalize hX:ap A.s x=X at *
  generalize hY:ap A.s y=Y at *
  by_cases c1:X.k=1∧Y.k=1∧X.v=Y.v
  ·exact⟨1,_,by rw[hun 0,if_pos c1]⟩
  by_cases c2:X.k=1
  ·exact⟨1,_,by rw[hun 0,if_neg c1,if_pos c2]⟩
  by_cases c3:Y.k=1
  ·exact⟨1,_,by rw[hun 0,if_neg c1,if_neg c2,if_pos c3]⟩
  by_cases c4:X.k≠Y.k
  ·exact⟨1,_,by rw[hun 0,if_neg c1,if_neg c2,if_neg c3,if_pos c4]⟩
  obtain⟨k,v,args,fs,rest⟩:=X
  obtain⟨k',v',args',fs',rest'⟩:=Y
  have c4':k=k':=Decidable.not_not.1 c4
  subst c4'
  have c2':k≠1:=c2
  rw[WfT] at wx wy
  rw[FixT,if_neg c2'] at fx fy
  rw[szT,szT] at hz
  have hlen:args.length=args'.length:=Option.some.inj (wx.1.symm.trans wy.1)
  have UL:∀ x ∈ args,∀ y ∈ args',∃ n r,uni n A x y=some r:=fun x hx y hy=>by
   have e1:=fix_ap ((fixTs_iff A.s _).1 fx.1 x hx)
   have e2:=fix_ap ((fixTs_iff A.s _).1 fy.1 y hy)
   exact end_T hc z hA ((wfTs_iff G _).1 wx.2.2.2.1 x hx) ((wfTs_iff G _).1 wy.2.2.2.1 y hy) hcn (by rw[e1,e2];have:=szTs_mem hx;have:=szTs_mem hy;omega)
  obtain⟨n,⟨e,A1⟩,hn⟩:=end_L hc args args' hA wx.2.2.2.1 wy.2.2.2.1 hlen hcn (.inr UL)
  have huse:∀ m,n≤m→uni (m+1) A x y=if e≠0 then some (e,A1)else if rwd k=true then uniR m A1 fs rest fs' rest' else some (0,A1):=fun m hm=>by
   rw[hun m,if_neg c1,if_neg c2,if_neg c3,if_neg c4]
   rw[show(TyT.mk k v args fs rest).args=args from rfl,show(TyT.mk k v' args' fs' rest').args=args' from rfl,uniL_mono hm hn]
   rfl
  by_cases he:e=0
  ·subst he
   obtain⟨G1,a1,_⟩:=(uni_all n).2.1 G A args args' A1 hA wx.2.2.2.1 wy.2.2.2.1 hlen hn
   by_cases hw:rwd k=true
   ·have rx:=wx.2.2.2.2.2
    have ry:=wy.2.2.2.2.2
    have gx:=fx.2
    have gy:=fy.2
    rw[if_pos hw] at rx ry gx gy
    have t0:Two G k (fun _=>False) (fs,rest) (fs',rest'):=⟨wx.2.2.2.2.1,wy.2.2.2.2.1,rx,ry⟩
    have key:∃ m r,uniR m A1 fs rest fs' rest'=some r:=by
     rcases a1.ext with e1|⟨_,e1⟩
     ·subst e1
      refine end_R hc hA t0 hcn (.inr ?_)
      rw[fixR_ap (q:=(fs,rest)) gx,fixR_ap (q:=(fs',rest')) gy]
      intro f hf g hg pf pg
      have xf:=(fixFs_iff A1.s _).1 gx.1 f hf
      have xg:=(fixFs_iff A1.s _).1 gy.1 g hg
      have wf:=(wfFs_iff G _).1 wx.2.2.2.2.1 f hf
      have wg:=(wfFs_iff G _).1 wy.2.2.2.2.1 g hg
      rw[fix_pre xf] at pf
      rw[fix_pre xg] at pg
      have ef:∀ {f:Fd},FixF A1.s f→f.pr≠0→ap A1.s f.t=f.t:=fun{f} h hp=>by
       obtain⟨lb,pr,p,t⟩:=f
       have hp:pr≠0:=hp
       rw[FixF,if_neg hp] at h
       exact fix_ap h.1
      have wtf:WfT G f.t:=pr_ne (A:=A1) wf (by rw[fix_pre xf];exact pf)
      have wtg:WfT G g.t:=pr_ne (A:=A1) wg (by rw[fix_pre xg];exact pg)
      rw[ef xf pf,ef xg pg]
      exact end_T hc z hA wtf wtg hcn (by rw[ef xf pf,ef xg pg];have:=szFs_mem (l:=fs) hf pf;have:=szFs_mem (l:=fs') hg pg;omega)
     ·exact hc.2 G1 A1 k _ fs rest fs' rest' a1.ok (t0.le a1.le) (by omega)
    obtain⟨m,r,hm⟩:=key
    refine⟨max n m+1,r,?_⟩
    rw[huse _ (Nat.le_max_left n m),if_neg (by simp),if_pos hw]
    exact uniR_mono (Nat.le_max_right n m) hm
   ·exact⟨n+1,_,by rw[huse n (Nat.le_refl n),if_neg (by simp),if_neg hw]⟩
  ·exact⟨n+1,_,by rw[huse n (Nat.le_refl n),if_pos he]⟩
theorem hc_all:∀ c,HC c
 | 0=>⟨fun _ _ _ _ _ _ _ h=>by omega,fun _ _ _ _ _ _ _ _ _ _ h=>by omega⟩
 | c+1=>by
  have hc:=hc_all c
  have hT:∀ G A x y,AOk G A→WfT G x→WfT G y→cnt A<c+1→∃ n r,uni n A x y=some r:=fun G A x y hA hx hy hcn=>end_T hc _ hA hx hy (by omega) (Nat.lt_succ_self _)
  refine⟨hT,fun G A k C F ra Gs rb hA ht hcn=>end_R hc hA ht (by omega) (.inr fun f hf g hg pf pg=>?_)⟩
  have wq:=apRow_wf hA.sw ht.wq ht.rq
  have wp:=apRow_wf hA.sw ht.wp ht.rp
  exact hT G A _ _ hA (ap_wf hA.sw (pr_ne ((wfFs_iff G _).1 wq.1 f hf) pf)) (ap_wf hA.sw (pr_ne ((wfFs_iff G _).1 wp.1 g hg) pg)) hcn
theorem uni_end{G:Ctx}{A:Ab}{x y:TyT}(hA:AOk G A)(hx:WfT G x)(hy:WfT G y):∃ n r,uni n A x y=some r:=(hc_all (cnt A+1)).1 G A x y hA hx hy (Nat.lt_succ_self _)
mutual
/-- other names -/
def ren(g:Int→Int):TyT→TyT
 | .mk k v args fs rest => .mk k (if k=1 then g v else v) (renTs g args) (renFs g fs) (if rest=0 then 0 else g rest)
def renTs(g:Int→Int):List TyT→List TyT
 | []=>[]
 | x::l=>ren g x::renTs g l
def renFs(g:Int→Int):List Fd→List Fd
 | []=>[]
 | f::l=>renF g f::renFs g l
def renF(g:Int→Int):Fd→Fd
 | ⟨lb,pr,p,t⟩=>⟨lb,pr,if pr=2 then g p else p,ren g t⟩
end
def renR(g:Int→Int)(q:List Fd×Int):List Fd×Int:=(renFs g q.1,if q.2=0 then 0 else g q.2)
theorem renFs_map(g:Int→Int)(l:List Fd):renFs g l=l.map (renF g):=by
 induction l with
 | nil=>rfl
 | cons x l ih=>rw[renFs,ih];rfl
theorem renF_lb(g:Int→Int)(f:Fd):(renF g f).lb=f.lb:=by obtain⟨lb,pr,p,t⟩:=f;rfl
theorem labs_ren(g:Int→Int)(l:List Fd):labs (renFs g l)=labs l:=by
 rw[renFs_map,labs,labs,List.map_map]
 exact List.map_congr_left (fun f _=>renF_lb g f)
def NZ(g:Int→Int):Prop:=∀ r,r≠0→g r≠0
def Lv(G:Ctx)(A:Ab)(u:Int):Prop:=G u≠.no∧A.s.ty u = .var u∧A.s.pr u=(2,u)∧A.s.rw u=([],u)
structure Sim (sw:Bool)(g:Int→Int)(G:Ctx)(A:Ab)(H:Ctx)(B:Ab):Prop where
 oa:AOk G A
 ob:AOk H B
 nz:NZ g
 lv:∀ u,Lv G A u→H (g u)=G u∧Lv H B (g u)
 inj:∀ u v,Lv G A u→Lv G A v→g u=g v→u=v
 va:ap B.s (if sw then B.b else B.a)=ren g (ap A.s A.a)
 vb:ap B.s (if sw then B.a else B.b)=ren g (ap A.s A.b)
structure Tr (G:Ctx)(g:Int→Int)(A B:Ab)(g1:Int→Int)(A1 B1:Ab):Prop where
 t:∀ z z',WfT G z→ap B.s z'=ren g (ap A.s z)→ap B1.s z'=ren g1 (ap A1.s z)
 f:∀ z z',WfF G z→apF B.s z'=renF g (apF A.s z)→apF B1.s z'=renF g1 (apF A1.s z)
 r:∀ k C F F' r r',WfFs G F→RowOk G k C F r→apRow B.s F' r'=renR g (apRow A.s F r)→apRow B1.s F' r'=renR g1 (apRow A1.s F r)
theorem Tr.refl{G:Ctx}{g:Int→Int}{A B:Ab}:Tr G g A B g A B:=⟨fun _ _ _ h=>h,fun _ _ _ h=>h,fun _ _ _ _ _ _ _ _ h=>h⟩
theorem Tr.trans{G G1:Ctx}{g g1 g2:Int→Int}{A B A1 B1 A2 B2:Ab}(l:Le G G1)(h:Tr G g A B g1 A1 B1)(k:Tr G1 g1 A1 B1 g2 A2 B2):Tr G g A B g2 A2 B2 :=
 ⟨fun z z' hw e=>k.t z z' (wfT_le l hw) (h.t z z' hw e),fun z z' hw e=>k.f z z' (wfF_le l hw) (h.f z z' hw e),fun kk C F F' r r' hw hr e=>k.r kk C F F' r r' (wfFs_le l hw) (hr.le l) (h.r kk C F F' r r' hw hr e)⟩
def SimO(sw:Bool)(g:Int→Int)(G:Ctx)(A:Ab)(H:Ctx)(B:Ab)(r q:Int×Ab):Prop :=
 (sw=true∧(r.1=3∨q.1=3))∨(r.1≠0∧q.1≠0∧(sw=false→r.1=q.1))∨(r.1=0∧q.1=0∧∃ g1 G1 H1,Sim sw g1 G1 r.2 H1 q.2∧Tr G g A B g1 r.2 q.2∧Le G G1∧Le H H1)
theorem SimO.stay{sw:Bool}{g:Int→Int}{G H:Ctx}{A B:Ab}(h:Sim sw g G A H B):SimO sw g G A H B (0,A) (0,B):=.inr (.inr ⟨rfl,rfl,g,G,H,h,.refl,.refl G,.refl H⟩)
theorem SimO.bad{sw:Bool}{g:Int→Int}{G H:Ctx}{A B:Ab}{e:Int}(he:e≠0):SimO sw g G A H B (e,A) (e,B):=.inr (.inl ⟨he,he,fun _=>rfl⟩)
section
variable {sw:Bool} {g:Int→Int} {G H:Ctx} {A B:Ab}
theorem Sim.pos(h:Sim sw g G A H B){v:Int}(hv:Lv G A v):v≠0∧g v≠0:=by
 have h1:=h.oa.pos v hv.1
 have h2:=h.nz v (by omega)
 exact⟨by omega,h2⟩
end
theorem apRow_un{s:Sub}{o:List Fd}{a:Int}(h:s.rw a=([],a)):apRow s o a=nrm (apFs s o) a:=by
 unfold apRow
 rw[h]
 dsimp only
 rw[List.append_nil]
structure Rst (sw:Bool)(g:Int→Int)(G:Ctx)(A:Ab)(H:Ctx)(B:Ab)(k:Int)(C:List UInt8→Prop)(Q P:List Fd×Int):Prop where
 s:Sim sw g G A H B
 t:Two G k C Q P
 t':Two H k C (renR g Q) (renR g P)
 d:∀ x,x ∈ labs Q.1→x ∉ labs P.1
 fq:FixR A.s Q
 fp:FixR A.s P
 fq':FixR B.s (renR g Q)
 fp':FixR B.s (renR g P)
section
variable {sw:Bool} {g:Int→Int} {G H:Ctx} {A B:Ab} {k:Int} {C:List UInt8→Prop} {Q P:List Fd×Int}
theorem Rst.d'(h:Rst sw g G A H B k C Q P):∀ x,x ∈ labs (renR g Q).1→x ∉ labs (renR g P).1:=fun x hx hc=>h.d x (by have:labs (renR g Q).1=labs Q.1:=labs_ren g Q.1;rw[← this];exact hx) (by have:labs (renR g P).1=labs P.1:=labs_ren g P.1;rw[← this];exact hc)
theorem Rst.symm(h:Rst sw g G A H B k C Q P):Rst sw g G A H B k C P Q:=⟨h.s,h.t.symm,h.t'.symm,fun x hx hc=>h.d x hc hx,h.fp,h.fq,h.fp',h.fq'⟩
end
theorem SimO.after{sw:Bool}{g g2:Int→Int}{G H G2 H2:Ctx}{A B A2 B2:Ab}{r q:Int×Ab}(h:SimO sw g2 G2 A2 H2 B2 r q)(t:Tr G g A B g2 A2 B2)(l:Le G G2)(l':Le H H2):SimO sw g G A H B r q:=by
 rcases h with h|h|⟨h1,h2,g3,G3,H3,s,t3,l3,l3'⟩
 ·exact .inl h
 ·exact .inr (.inl h)
 ·exact .inr (.inr ⟨h1,h2,g3,G3,H3,s,t.trans l t3,l.trans l3,l'.trans l3'⟩)
theorem apFs_out{s:Sub}{w:Int}{Q:List Fd×Int}{l:List Fd}(hf:FixFs s l)(ho:occFs w l=false):apFs (.rwB w Q) l=l :=
 fixFs_ap (fixFs_keep (s:=s) (u:=.rwB w Q) (v:=w) (fun _ _ _=>rfl) (fun _ _=>rfl) (fun x _ hne=>if_neg hne) hf ho)
theorem ri_ext:∀ {l m:List (List UInt8)},Ri l→Ri m→(∀ x,x ∈ l↔x ∈ m)→l=m
 | [],[],_,_,_=>rfl
 | [],y::_,_,_,h=>absurd ((h y).2 (by simp)) (by simp)
 | x::_,[],_,_,h=>absurd ((h x).1 (by simp)) (by simp)
 | x::l,y::m,h1,h2,h=>by
  have h1':=List.pairwise_cons.1 h1
  have h2':=List.pairwise_cons.1 h2
  have e:x=y:=by
   rcases List.mem_cons.1 ((h x).1 (by simp))with c|c
   ·exact c
   ·rcases List.mem_cons.1 ((h y).2 (by simp))with c' | c'
    ·exact c'.symm
    ·have:=ltB_asym (h1'.1 y c')
     rw[h2'.1 x c] at this;cases this
  subst e
  rw[ri_ext h1'.2 h2'.2 (fun z=>⟨fun hz=>by
   rcases List.mem_cons.1 ((h z).1 (by simp[hz]))with c|c
   ·subst c;have:=h1'.1 z hz;rw[ltB_irrefl] at this;cases this
   ·exact c,fun hz=>by
   rcases List.mem_cons.1 ((h z).2 (by simp[hz]))with c|c
   ·subst c;have:=h2'.1 z hz;rw[ltB_irrefl] at this;cases this
   ·exact c⟩)]
theorem SimO.then{sw:Bool}{g:Int→Int}{G H:Ctx}{A B:Ab}{r1 q1 r q:Int×Ab}{f f':Option (Int×Ab)}(h:SimO sw g G A H B r1 q1)(hr:(if r1.1≠0 then some r1 else f)=some r)(hq:(if q1.1≠0 then some q1 else f')=some q)
  (hk:∀ g1 G1 H1,r1.1=0→q1.1=0→Sim sw g1 G1 r1.2 H1 q1.2→Tr G g A B g1 r1.2 q1.2→Le G G1→Le H H1→f=some r→f'=some q→SimO sw g1 G1 r1.2 H1 q1.2 r q):SimO sw g G A H B r q:=by
 rcases h with⟨h1,h2⟩| ⟨h1,h2,h3⟩| ⟨h1,h2,g1,G1,H1,s,t,l,l'⟩
 ·rcases h2 with h2|h2
  ·rw[if_pos (by omega)] at hr;cases hr;exact .inl ⟨h1,.inl h2⟩
  ·rw[if_pos (by omega)] at hq;cases hq;exact .inl ⟨h1,.inr h2⟩
 ·rw[if_pos h1] at hr;rw[if_pos h2] at hq
  cases hr;cases hq;exact .inr (.inl ⟨h1,h2,h3⟩)
 ·rw[if_neg (by simpa using h1)] at hr;rw[if_neg (by simpa using h2)] at hq
  exact(hk g1 G1 H1 h1 h2 s t l l' hr hq).after t l l'
structure FV (g:Int→Int)(A B:Ab)(q q':List Fd×Int):Prop where
 n:∀ x,fnd x q.1=none↔fnd x q'.1=none
 v:∀ x f f',fnd x q.1=some f→fnd x q'.1=some f'→apF B.s f'=renF g (apF A.s f)
 z:q'.2=0↔q.2=0
theorem FV.tr{g g1:Int→Int}{G:Ctx}{A B A1 B1:Ab}{q q':List Fd×Int}(h:FV g A B q q')(t:Tr G g A B g1 A1 B1)(hw:WfFs G q.1):FV g1 A1 B1 q q' :=
 ⟨h.n,fun x f f' h1 h2=>t.f f f' (fnd_wf hw h1).1 (h.v x f f' h1 h2),h.z⟩
def Apart(Q P:List Fd×Int):Prop:=(∀ x,x ∈ labs Q.1→x ∉ labs P.1)∧(P.2=0→∀ f ∈ Q.1,f.pr=0)∧(Q.2=0→∀ f ∈ P.1,f.pr=0)
theorem Apart.symm{Q P:List Fd×Int}(h:Apart Q P):Apart P Q:=⟨fun x hx hc=>h.1 x hc hx,h.2.2,h.2.1⟩
def onceI(b:Bool)(l:List Int)(v:Int):List Int:=if b=true∧v ∉ l then l++[v] else l
mutual
/-- a type's variables behind others,each once -/
def varsT:TyT→List Int→List Int
 | .mk k v args fs rest,l=>onceI (rest != 0) (varsFs fs (varsTs args (onceI (k==1) l v))) rest
def varsTs:List TyT→List Int→List Int
 | [],l=>l
 | x::xs,l=>varsTs xs (varsT x l)
def varsFs:List Fd→List Int→List Int
 | [],l=>l
 | f::fs,l=>varsFs fs (varsF f l)
def varsF:Fd→List Int→List Int
 | ⟨_,pr,p,t⟩,l=>varsT t (onceI (pr==2) l p)
end
mutual
/-- all its variables are such -/
def VT(P:Int→Prop):TyT→Prop
 | .mk k v args fs rest=>(k=1→P v)∧VTs P args∧VFs P fs∧(rest≠0→P rest)
def VTs(P:Int→Prop):List TyT→Prop
 | []=>True
 | x::l=>VT P x∧VTs P l
def VFs(P:Int→Prop):List Fd→Prop
 | []=>True
 | f::l=>VF P f∧VFs P l
def VF(P:Int→Prop):Fd→Prop
 | ⟨_,pr,p,t⟩=>(pr=2→P p)∧VT P t
end
mutual
theorem vt_mono{P Q:Int→Prop}(h:∀ v,P v→Q v):∀ {t:TyT},VT P t→VT Q t
 | .mk k v args fs rest,e=>by rw[VT] at e ⊢;exact⟨fun c=>h _ (e.1 c),vts_mono h e.2.1,vfs_mono h e.2.2.1,fun c=>h _ (e.2.2.2 c)⟩
theorem vts_mono{P Q:Int→Prop}(h:∀ v,P v→Q v):∀ {t:List TyT},VTs P t→VTs Q t
 | [],_=>trivial
 | x::l,e=>by rw[VTs] at e ⊢;exact⟨vt_mono h e.1,vts_mono h e.2⟩
theorem vfs_mono{P Q:Int→Prop}(h:∀ v,P v→Q v):∀ {t:List Fd},VFs P t→VFs Q t
 | [],_=>trivial
 | x::l,e=>by rw[VFs] at e ⊢;exact⟨vf_mono h e.1,vfs_mono h e.2⟩
theorem vf_mono{P Q:Int→Prop}(h:∀ v,P v→Q v):∀ {t:Fd},VF P t→VF Q t
 | ⟨lb,pr,p,t⟩,e=>by rw[VF] at e ⊢;exact⟨fun c=>h _ (e.1 c),vt_mono h e.2⟩
end
theorem AOk.swap{G:Ctx}{s:Sub}{m:Int}{a b:TyT}(h:AOk G ⟨s,m,a,b⟩):AOk G ⟨s,m,b,a⟩:=⟨h.so,h.sw,h.wb,h.wa,h.pos,h.ri,h.hi,h.rt,h.rp,h.rr,h.mo⟩
def fnT(a b:TyT):TyT:=.mk 7 0 [a,b] [] 0
mutual
/-- the greatest number -/
def seenT:TyT→Int→Int
 | .mk _ v args fs rest,m=>seenFs fs (seenTs args (max (max m v) rest))
def seenTs:List TyT→Int→Int
 | [],m=>m
 | x::l,m=>seenTs l (seenT x m)
def seenFs:List Fd→Int→Int
 | [],m=>m
 | f::l,m=>seenFs l (seenF f m)
def seenF:Fd→Int→Int
 | ⟨_,_,p,t⟩,m=>seenT t (max m p)
end
mutual
theorem seen_le:∀ (t:TyT)(m:Int),m≤seenT t m
 | .mk k v args fs rest,m=>by
  rw[seenT]
  have h1:=seenTs_le args (max (max m v) rest)
  have h2:=seenFs_le fs (seenTs args (max (max m v) rest))
  omega
theorem seenTs_le:∀ (t:List TyT)(m:Int),m≤seenTs t m
 | [],_=>Int.le_refl _
 | x::l,m=>by rw[seenTs];exact Int.le_trans (seen_le x m) (seenTs_le l _)
theorem seenFs_le:∀ (t:List Fd)(m:Int),m≤seenFs t m
 | [],_=>Int.le_refl _
 | x::l,m=>by rw[seenFs];exact Int.le_trans (seenF_le x m) (seenFs_le l _)
theorem seenF_le:∀ (t:Fd)(m:Int),m≤seenF t m
 | ⟨lb,pr,p,t⟩,m=>by
  rw[seenF]
  have:=seen_le t (max m p)
  omega
end
mutual
theorem seen_vt:∀ (t:TyT)(m:Int),VT (·≤seenT t m) t
 | .mk k v args fs rest,m=>by
  rw[VT,seenT]
  have h1:=seenTs_le args (max (max m v) rest)
  have h2:=seenFs_le fs (seenTs args (max (max m v) rest))
  exact⟨fun _=>by omega,vts_mono (fun u hu=>Int.le_trans hu h2) (seenTs_vt args _),seenFs_vt fs _,fun _=>by omega⟩
theorem seenTs_vt:∀ (t:List TyT)(m:Int),VTs (·≤seenTs t m) t
 | [],_=>trivial
 | x::l,m=>by rw[VTs,seenTs];exact⟨vt_mono (fun u hu=>Int.le_trans hu (seenTs_le l _)) (seen_vt x m),seenTs_vt l _⟩
theorem seenFs_vt:∀ (t:List Fd)(m:Int),VFs (·≤seenFs t m) t
 | [],_=>trivial
 | x::l,m=>by rw[VFs,seenFs];exact⟨vf_mono (fun u hu=>Int.le_trans hu (seenFs_le l _)) (seenF_vt x m),seenFs_vt l _⟩
theorem seenF_vt:∀ (t:Fd)(m:Int),VF (·≤seenF t m) t
 | ⟨lb,pr,p,t⟩,m=>by
  rw[VF,seenF]
  have:=seen_le t (max m p)
  exact⟨fun _=>by omega,seen_vt t _⟩
end
theorem aok_one{G:Ctx}{m:Int}{a b:TyT}(hp:Pos G)(hr:Rise G)(wa:WfT G a)(wb:WfT G b)(hi:∀ v,m<v→G v = .no)(h0:0≤m):AOk G ⟨.one,m,a,b⟩:=
 ⟨subOk_one,subWf_one hp hr,wa,wb,hp,hr,hi,fun _ h=>absurd rfl h,fun _ h=>absurd rfl h,fun _ h=>absurd rfl h,h0⟩
mutual
/-- a type's variables behind others,as the reference meets them -/
def gvT:TyT→List Int→List Int
 | .mk k v args fs rest,l=>onceI (decide (0<rest)) (gvFs fs (gvTs args (onceI (k==1) l v))) rest
def gvTs:List TyT→List Int→List Int
 | [],l=>l
 | x::xs,l=>gvTs xs (gvT x l)
def gvFs:List Fd→List Int→List Int
 | [],l=>l
 | f::fs,l=>gvFs fs (gvF f l)
def gvF:Fd→List Int→List Int
 | ⟨_,pr,p,t⟩,l=>if pr=0 then l else gvT t (onceI (pr==2) l p)
end
theorem vars_zero(l:List Int):varsT .zero l=l:=by
 unfold TyT.zero
 rw[varsT,varsFs,varsTs]
 simp[onceI]
mutual
theorem gv_vars{G:Ctx}:∀ {t:TyT}{l:List Int},WfT G t→gvT t l=varsT t l
 | .mk k v args fs rest,l,h=>by
  rw[WfT] at h
  obtain⟨h1,h2,h3,h4,h5,h6⟩:=h
  rw[gvT,varsT,gvTs_vars h4,gvFs_vars h5]
  have e:decide (0<rest)=(rest != 0):=by
   by_cases c:rwd k=true
   ·rw[if_pos c] at h6
    rcases h6.2.2 with e|⟨e,_⟩
    ·rw[e];rfl
    ·have h7:rest≠0:=by omega
     have h8:0<rest:=by omega
     simp[h7,h8]
   ·rw[if_neg c] at h6
    rw[h6.2];rfl
  rw[e]
theorem gvTs_vars{G:Ctx}:∀ {t:List TyT}{l:List Int},WfTs G t→gvTs t l=varsTs t l
 | [],_,_=>rfl
 | x::xs,l,h=>by rw[WfTs] at h;rw[gvTs,varsTs,gv_vars h.1,gvTs_vars h.2]
theorem gvFs_vars{G:Ctx}:∀ {t:List Fd}{l:List Int},WfFs G t→gvFs t l=varsFs t l
 | [],_,_=>rfl
 | x::xs,l,h=>by rw[WfFs] at h;rw[gvFs,varsFs,gvF_vars h.1,gvFs_vars h.2]
theorem gvF_vars{G:Ctx}:∀ {t:Fd}{l:List Int},WfF G t→gvF t l=varsF t l
 | ⟨lb,pr,p,t⟩,l,h=>by
  rw[WfF] at h
  rw[gvF,varsF]
  rcases h with⟨rfl,rfl,rfl⟩| ⟨rfl,rfl,ht⟩| ⟨rfl,_,_,ht⟩
  ·rw[if_pos rfl,vars_zero];rfl
  ·rw[if_neg (by decide),gv_vars ht]
  ·rw[if_neg (by decide),gv_vars ht]
end
theorem onceI_len(b:Bool)(l:List Int)(v:Int):(onceI b l v).length≤l.length+1:=by unfold onceI;split <;> simp
theorem onceI_sub{b:Bool}{l:List Int}{v:Int}:∀ x ∈ l,x ∈ onceI b l v:=fun x hx=>by unfold onceI;split <;> simp[hx]
theorem onceI_self{b:Bool}{l:List Int}{v:Int}(hb:b=true):v ∈ onceI b l v:=by
 unfold onceI
 by_cases h:v ∈ l
 ·rw[if_neg (by simp[h])];exact h
 ·rw[if_pos ⟨hb,h⟩];simp
mutual
theorem gvT_len:∀ (t:TyT)(l:List Int),(gvT t l).length≤l.length+2 * szT t
 | .mk k v args fs rest,l=>by
  rw[gvT,szT]
  have h1:=onceI_len (decide (0<rest)) (gvFs fs (gvTs args (onceI (k==1) l v))) rest
  have h2:=gvFs_len fs (gvTs args (onceI (k==1) l v))
  have h3:=gvTs_len args (onceI (k==1) l v)
  have h4:=onceI_len (k==1) l v
  omega
theorem gvTs_len:∀ (t:List TyT)(l:List Int),(gvTs t l).length≤l.length+2 * szTs t
 | [],l=>by rw[gvTs,szTs];omega
 | x::xs,l=>by
  rw[gvTs,szTs]
  have h1:=gvT_len x l
  have h2:=gvTs_len xs (gvT x l)
  omega
theorem gvFs_len:∀ (t:List Fd)(l:List Int),(gvFs t l).length≤l.length+2 * szFs t
 | [],l=>by rw[gvFs,szFs];omega
 | x::xs,l=>by
  rw[gvFs,szFs]
  have h1:=gvF_len x l
  have h2:=gvFs_len xs (gvF x l)
  omega
theorem gvF_len:∀ (t:Fd)(l:List Int),(gvF t l).length≤l.length+2 * szF t
 | ⟨lb,pr,p,t⟩,l=>by
  rw[gvF,szF]
  by_cases h:pr=0
  ·rw[if_pos h,if_pos h];omega
  ·rw[if_neg h,if_neg h]
   have h1:=gvT_len t (onceI (pr==2) l p)
   have h2:=onceI_len (pr==2) l p
   omega
end
theorem gvTs_at{x:TyT}{l:List TyT}{i:Nat}(h:l[i]?=some x)(m:List Int):gvTs (l.take (i+1)) m=gvT x (gvTs (l.take i) m):=by
 have key:∀ (a b:List TyT) (m:List Int),gvTs (a++b) m=gvTs b (gvTs a m):=by
  intro a
  induction a with
  | nil=>intro b m;rfl
  | cons y a ih=>intro b m;rw[List.cons_append,gvTs,gvTs,ih]
 rw[List.take_add_one,h,key];rfl
theorem gvFs_at{x:Fd}{l:List Fd}{i:Nat}(h:l[i]?=some x)(m:List Int):gvFs (l.take (i+1)) m=gvF x (gvFs (l.take i) m):=by
 have key:∀ (a b:List Fd) (m:List Int),gvFs (a++b) m=gvFs b (gvFs a m):=by
  intro a
  induction a with
  | nil=>intro b m;rfl
  | cons y a ih=>intro b m;rw[List.cons_append,gvFs,gvFs,ih]
 rw[List.take_add_one,h,key];rfl
mutual
theorem vars_sub:∀ (t:TyT)(l:List Int),∀ x ∈ l,x ∈ varsT t l
 | .mk k v args fs rest,l=>fun x hx=>by rw[varsT];exact onceI_sub _ (varsFs_sub fs _ _ (varsTs_sub args _ _ (onceI_sub _ hx)))
theorem varsTs_sub:∀ (t:List TyT)(l:List Int),∀ x ∈ l,x ∈ varsTs t l
 | [],_=>fun _ h=>h
 | y::ys,l=>fun x hx=>by rw[varsTs];exact varsTs_sub ys _ _ (vars_sub y l x hx)
theorem varsFs_sub:∀ (t:List Fd)(l:List Int),∀ x ∈ l,x ∈ varsFs t l
 | [],_=>fun _ h=>h
 | y::ys,l=>fun x hx=>by rw[varsFs];exact varsFs_sub ys _ _ (varsF_sub y l x hx)
theorem varsF_sub:∀ (t:Fd)(l:List Int),∀ x ∈ l,x ∈ varsF t l
 | ⟨lb,pr,p,t⟩,l=>fun x hx=>by rw[varsF];exact vars_sub t _ _ (onceI_sub _ hx)
end
mutual
/-- all variables are among them -/
theorem vars_in:∀ (t:TyT)(l:List Int),VT (· ∈ varsT t l) t
 | .mk k v args fs rest,l=>by
  rw[VT,varsT]
  exact⟨fun h=>onceI_sub _ (varsFs_sub fs _ _ (varsTs_sub args _ _ (onceI_self (by simp[h])))),vts_mono (fun u hu=>onceI_sub _ (varsFs_sub fs _ _ hu)) (varsTs_in args _),vfs_mono (fun u hu=>onceI_sub _ hu) (varsFs_in fs _),fun h=>onceI_self (by simp[h])⟩
theorem varsTs_in:∀ (t:List TyT)(l:List Int),VTs (· ∈ varsTs t l) t
 | [],_=>trivial
 | x::xs,l=>by rw[VTs,varsTs];exact⟨vt_mono (fun u hu=>varsTs_sub xs _ _ hu) (vars_in x l),varsTs_in xs _⟩
theorem varsFs_in:∀ (t:List Fd)(l:List Int),VFs (· ∈ varsFs t l) t
 | [],_=>trivial
 | x::xs,l=>by rw[VFs,varsFs];exact⟨vf_mono (fun u hu=>varsFs_sub xs _ _ hu) (varsF_in x l),varsFs_in xs _⟩
theorem varsF_in:∀ (t:Fd)(l:List Int),VF (· ∈ varsF t l) t
 | ⟨lb,pr,p,t⟩,l=>by rw[VF,varsF];exact⟨fun h=>vars_sub t _ _ (onceI_self (by simp[h])),vars_in t _⟩
end
def lk{α:Type}(v:Int):List (Int×α)→Option α
 | []=>none
 | (u,x)::l=>if u=v then some x else lk v l
structure Raw where
 tys:List (Int×TyT)
 prs:List (Int×(Int×Int))
 rws:List (Int×(List Fd×Int))
def Eqv(l m:List Fd)(e:Int):Prop:=(e=0→l.filter here=m.filter here)∧(e≠0→l=m)
theorem Eqv.refl(l:List Fd)(e:Int):Eqv l l e:=⟨fun _=>rfl,fun _=>rfl⟩
structure Rep (R:Raw)(s:Sub):Prop where
 ty:∀ v t,lk v R.tys=some t→s.ty v=ap s t
 ty0:∀ v,lk v R.tys=none→s.ty v = .var v
 pr:∀ p q,lk p R.prs=some q→s.pr p=if q.1=2 then s.pr q.2 else q
 pr0:∀ p,lk p R.prs=none→s.pr p=(2,p)
 rw_:∀ r q,lk r R.rws=some q→(s.rw r).2=(s.rw q.2).2∧Eqv (s.rw r).1 (apFs s q.1++(s.rw q.2).1) (s.rw q.2).2
 rw0:∀ r,lk r R.rws=none→s.rw r=([],r)
structure Rk (R:Raw)(a b c:Int→Nat):Prop where
 ty:∀ v t,lk v R.tys=some t→t.k=1→lk t.v R.tys≠none→a t.v<a v
 pr:∀ p q,lk p R.prs=some q→q.1=2→lk q.2 R.prs≠none→b q.2<b p
 rw_:∀ r q,lk r R.rws=some q→lk q.2 R.rws≠none→c q.2<c r
theorem rep_one:Rep ⟨[],[],[]⟩ .one:=⟨fun _ _ h=>(by cases h),fun _ _=>rfl,fun _ _ h=>(by cases h),fun _ _=>rfl,fun _ _ h=>(by cases h),fun _ _=>rfl⟩
theorem rk_one:Rk ⟨[],[],[]⟩ (fun _=>0) (fun _=>0) (fun _=>0):=⟨fun _ _ h=>(by cases h),fun _ _ h=>(by cases h),fun _ _ h=>(by cases h)⟩
section
variable {R:Raw} {s u:Sub}
theorem Rep.old_ty(h:Rep R s)(hu:u.ok){v:Int}{t:TyT}(e:lk v R.tys=some t):(cmp u s).ty v=ap (cmp u s) t:=by
 rw[cmp_ty,h.ty v t e,ap_cmp u s hu]
theorem Rep.old_pr(h:Rep R s){p:Int}{q:Int×Int}(e:lk p R.prs=some q):(cmp u s).pr p=if q.1=2 then (cmp u s).pr q.2 else q:=by
 rw[cmp_pr,h.pr p q e]
 by_cases c:q.1=2
 ·rw[if_pos c,if_pos c,cmp_pr]
 ·rw[if_neg c,if_neg c,if_neg c]
theorem Rep.old_rw(h:Rep R s)(hu:u.ok){r:Int}{q:List Fd×Int}(e:lk r R.rws=some q):((cmp u s).rw r).2=((cmp u s).rw q.2).2∧Eqv ((cmp u s).rw r).1 (apFs (cmp u s) q.1++((cmp u s).rw q.2).1) ((cmp u s).rw q.2).2:=by
 obtain⟨h1,h2⟩:=h.rw_ r q e
 rw[cmp_rw,cmp_rw]
 dsimp only
 rw[h1]
 refine⟨rfl,?_⟩
 have e2:apFs (cmp u s) q.1++(apFs u (s.rw q.2).1++(u.rw (s.rw q.2).2).1)=apFs u (apFs s q.1++(s.rw q.2).1)++(u.rw (s.rw q.2).2).1:=by
  rw[← apFs_cmp u s hu q.1]
  simp only[apFs_map,List.map_append,List.append_assoc]
 rw[e2]
 generalize (s.rw r).1=L at *
 generalize apFs s q.1++(s.rw q.2).1=M at *
 by_cases c:(s.rw q.2).2=0
 ·have e3:=h2.1 c
  rw[c,hu]
  refine⟨fun _=>?_,fun k=>absurd rfl k⟩
  rw[List.filter_append,List.filter_append,apFs_map,apFs_map,← filter_map_here u L,← filter_map_here u M,e3]
 ·rw[h2.2 c];exact Eqv.refl _ _
theorem rep_ty(h:Rep R s)(hs:SubOk s){v:Int}{t:TyT}(hn:lk v R.tys=none)(ho:occT v (ap s t)=false):Rep ⟨(v,t)::R.tys,R.prs,R.rws⟩ (cmp (.tyB v (ap s t)) s):=by
 have hu:(Sub.tyB v (ap s t)).ok:=rfl
 refine⟨fun w x e=>?_,fun w e=>?_,fun p q e=>h.old_pr e,fun p e=>?_,fun r q e=>h.old_rw hu e,fun r e=>?_⟩
 ·unfold lk at e
  by_cases c:v=w
  ·rw[if_pos c] at e
   cases e
   subst c
   rw[cmp_ty,h.ty0 v hn,ap_var,← ap_cmp _ _ hu]
   rw[show(Sub.tyB v (ap s t)).ty v=ap s t from if_pos rfl]
   exact(fix_ap (fix_keep (s:=s) (u:=.tyB v (ap s t)) (v:=v) (fun x _ hne=>if_neg hne) (fun _ _=>rfl) (fun _ _ _=>rfl) (ap_fix hs t) ho)).symm
  ·rw[if_neg c] at e;exact h.old_ty hu e
 ·unfold lk at e
  by_cases c:v=w
  ·rw[if_pos c] at e;cases e
  ·rw[if_neg c] at e
   rw[cmp_ty,h.ty0 w e,ap_var];exact if_neg (Ne.symm c)
 ·rw[cmp_pr,h.pr0 p e];rfl
 ·rw[cmp_rw,h.rw0 r e];rfl
theorem rep_pr(h:Rep R s){v:Int}{q:Int×Int}(hn:lk v R.prs=none)(hq:q.1=2→q.2≠v∧s.pr q.2=(2,q.2)):Rep ⟨R.tys,(v,q)::R.prs,R.rws⟩ (cmp (.prB v q) s):=by
 have hu:(Sub.prB v q).ok:=rfl
 refine⟨fun w x e=>h.old_ty hu e,fun w e=>?_,fun p x e=>?_,fun p e=>?_,fun r x e=>h.old_rw hu e,fun r e=>?_⟩
 ·rw[cmp_ty,h.ty0 w e,ap_var];rfl
 ·unfold lk at e
  by_cases c:v=p
  ·rw[if_pos c] at e
   cases e
   subst c
   rw[cmp_pr,h.pr0 v hn,if_pos rfl]
   show(if v=v then q else (2,v))=_
   rw[if_pos rfl]
   by_cases c2:q.1=2
   ·obtain⟨h1,h2⟩:=hq c2
    rw[if_pos c2,cmp_pr,h2,if_pos rfl]
    show q=if q.2=v then q else (2,q.2)
    rw[if_neg h1]
    exact Prod.ext c2 rfl
   ·rw[if_neg c2]
  ·rw[if_neg c] at e;exact h.old_pr e
 ·unfold lk at e
  by_cases c:v=p
  ·rw[if_pos c] at e;cases e
  ·rw[if_neg c] at e
   rw[cmp_pr,h.pr0 p e,if_pos rfl]
   exact if_neg (Ne.symm c)
 ·rw[cmp_rw,h.rw0 r e];rfl
theorem rk_ty{a b c:Int→Nat}(h:Rk R a b c){v:Int}{t:TyT}(ht:t.k=1→t.v≠v∧lk t.v R.tys=none):Rk ⟨(v,t)::R.tys,R.prs,R.rws⟩ (fun w=>if w=v then 0 else a w+1) b c:=by
 refine⟨fun w x e hk hb=>?_,h.pr,h.rw_⟩
 unfold lk at e hb
 by_cases c1:v=w
 ·rw[if_pos c1] at e
  cases e
  obtain⟨h1,h2⟩:=ht hk
  rw[if_neg (Ne.symm h1)] at hb
  exact absurd h2 hb
 ·rw[if_neg c1] at e
  rw[if_neg (Ne.symm c1)]
  by_cases c2:x.v=v
  ·rw[if_pos c2];omega
  ·rw[if_neg c2]
   rw[if_neg (Ne.symm c2)] at hb
   have:=h.ty w x e hk hb
   omega
theorem occFs_nrm(v:Int)(l:List Fd)(r:Int):occFs v (nrm l r).1=occFs v l:=by
 have hp:∀ {l m:List Fd},l.Perm m→occFs v l=occFs v m:=fun h=>by
  induction h with
  | nil=>rfl
  | cons x _ ih=>rw[occFs,occFs,ih]
  | swap x y l=>rw[occFs,occFs,occFs,occFs];generalize occF v x=a;generalize occF v y=b;generalize occFs v l=c;revert a b c;decide
  | trans _ _ h1 h2=>rw[h1,h2]
 have hfl:∀ l:List Fd,occFs v (l.filter here)=occFs v l:=fun l=>by
  induction l with
  | nil=>rfl
  | cons x l ih =>
   rw[List.filter_cons]
   by_cases e:here x=true
   ·rw[if_pos e,occFs,occFs,ih]
   ·rw[if_neg e,ih,occFs]
    obtain⟨lb,pr,p,t⟩:=x
    have:(pr != 0)=false:=by simpa [here] using e
    rw[occF,this];rfl
 unfold nrm
 dsimp only
 split
 ·rw[hfl,hp (srt_perm l)]
 ·rw[hp (srt_perm l)]
theorem rep_rw(h:Rep R s)(hs:SubOk s){v:Int}{fs:List Fd}{r:Int}(hv:v≠0)(hn:lk v R.rws=none)(ho:occR v (apRow s fs r)=false)(hsd:Sd fs)(hr:s.rw r=([],r))(hne:r≠v):
  Rep ⟨R.tys,R.prs,(v,(fs,r))::R.rws⟩ (cmp (.rwB v (apRow s fs r)) s):=by
 have hu:(Sub.rwB v (apRow s fs r)).ok:=if_neg (Ne.symm hv)
 refine⟨fun w x e=>h.old_ty hu e,fun w e=>?_,fun p q e=>h.old_pr e,fun p e=>?_,fun w q e=>?_,fun w e=>?_⟩
 ·rw[cmp_ty,h.ty0 w e,ap_var];rfl
 ·rw[cmp_pr,h.pr0 p e];rfl
 ·unfold lk at e
  by_cases c:v=w
  ·rw[if_pos c] at e
   cases e
   subst c
   have e1:(cmp (.rwB v (apRow s fs r)) s).rw v=apRow s fs r:=by
    rw[cmp_rw,h.rw0 v hn]
    show(apFs _ []++(if v=v then apRow s fs r else ([],v)).1,(if v=v then apRow s fs r else ([],v)).2)=_
    rw[if_pos rfl];rfl
   have e2:(cmp (.rwB v (apRow s fs r)) s).rw r=([],r):=by
    rw[cmp_rw,hr]
    show(apFs _ []++(if r=v then apRow s fs r else ([],r)).1,(if r=v then apRow s fs r else ([],r)).2)=_
    rw[if_neg hne];rfl
   have e3:apRow s fs r=nrm (apFs s fs) r:=apRow_un hr
   rw[e1,e2,← apFs_cmp _ _ hu]
   dsimp only
   have ho2:occFs v (apFs s fs)=false:=by
    rw[e3] at ho
    unfold occR at ho
    rw[Bool.or_eq_false_iff,occFs_nrm] at ho
    exact ho.2
   rw[apFs_out (apFs_fix hs fs) ho2,List.append_nil,e3]
   have hA:srt (apFs s fs)=apFs s fs:=srt_id (by
    rw[apFs_map]
    exact List.pairwise_map.2 (hsd.imp (fun{a b} hab=>by unfold leF at hab ⊢;rw[apF_lb,apF_lb];exact hab)))
   refine⟨rfl,fun c=>?_,fun c=>?_⟩
   ·unfold nrm
    rw[if_pos c,hA,List.filter_filter]
    simp only[Bool.and_self]
   ·unfold nrm
    rw[if_neg c,hA]
  ·rw[if_neg c] at e;exact h.old_rw hu e
 ·unfold lk at e
  by_cases c:v=w
  ·rw[if_pos c] at e;cases e
  ·rw[if_neg c] at e
   rw[cmp_rw,h.rw0 w e]
   show(apFs _ []++(if w=v then apRow s fs r else ([],w)).1,(if w=v then apRow s fs r else ([],w)).2)=_
   rw[if_neg (Ne.symm c)];rfl
theorem rk_pr{a b c:Int→Nat}(h:Rk R a b c){v:Int}{q:Int×Int}(hq:q.1=2→q.2≠v∧lk q.2 R.prs=none):Rk ⟨R.tys,(v,q)::R.prs,R.rws⟩ a (fun w=>if w=v then 0 else b w+1) c:=by
 refine⟨h.ty,fun w x e hk hb=>?_,h.rw_⟩
 unfold lk at e hb
 by_cases c1:v=w
 ·rw[if_pos c1] at e
  cases e
  obtain⟨h1,h2⟩:=hq hk
  rw[if_neg (Ne.symm h1)] at hb
  exact absurd h2 hb
 ·rw[if_neg c1] at e
  rw[if_neg (Ne.symm c1)]
  by_cases c2:x.2=v
  ·rw[if_pos c2];omega
  ·rw[if_neg c2]
   rw[if_neg (Ne.symm c2)] at hb
   have:=h.pr w x e hk hb
   omega
theorem rk_rw{a b c:Int→Nat}(h:Rk R a b c){v:Int}{q:List Fd×Int}(h1:q.2≠v)(h2:lk q.2 R.rws=none):Rk ⟨R.tys,R.prs,(v,q)::R.rws⟩ a b (fun w=>if w=v then 0 else c w+1):=by
 refine⟨h.ty,h.pr,fun w x e hb=>?_⟩
 unfold lk at e hb
 by_cases c1:v=w
 ·rw[if_pos c1] at e
  cases e
  rw[if_neg (Ne.symm h1)] at hb
  exact absurd h2 hb
 ·rw[if_neg c1] at e
  rw[if_neg (Ne.symm c1)]
  by_cases c2:x.2=v
  ·rw[if_pos c2];omega
  ·rw[if_neg c2]
   rw[if_neg (Ne.symm c2)] at hb
   have:=h.rw_ w x e hb
   omega
end
section
variable {R:Raw} {s:Sub}
inductive HeadR (R:Raw):TyT→TyT→Prop
 | not {t:TyT} (h:t.k≠1):HeadR R t t
 | free {t:TyT} (h:t.k=1) (hn:lk t.v R.tys=none):HeadR R t t
 | go {t x y:TyT} (h:t.k=1) (hn:lk t.v R.tys=some x) (hr:HeadR R x y):HeadR R t y
theorem head_ex{a b c:Int→Nat}(hk:Rk R a b c):∀ (N:Nat)(t:TyT),(t.k=1→lk t.v R.tys≠none→a t.v<N)→∃ y,HeadR R t y
 | 0,t,h=>by
  by_cases c1:t.k=1
  ·cases e:lk t.v R.tys with
   | none=>exact⟨t,.free c1 e⟩
   | some x=>have:=h c1 (by rw[e];simp);omega
  ·exact⟨t,.not c1⟩
 | N+1,t,h=>by
  by_cases c1:t.k=1
  ·cases e:lk t.v R.tys with
   | none=>exact⟨t,.free c1 e⟩
   | some x =>
    have h0:=h c1 (by rw[e];simp)
    obtain⟨y,hy⟩:=head_ex hk N x (fun k1 k2=>by have:=hk.ty t.v x e k1 k2;omega)
    exact⟨y,.go c1 e hy⟩
  ·exact⟨t,.not c1⟩
theorem ap_k1{t:TyT}(h:t.k=1):ap s t=s.ty t.v:=by
 obtain⟨k,v,args,fs,rest⟩:=t
 rw[ap];exact if_pos h
theorem HeadR.same(h:Rep R s){t y:TyT}(hy:HeadR R t y):ap s y=ap s t:=by
 induction hy with
 | not _=>rfl
 | free _ _=>rfl
 | go hk hn _ ih=>rw[ih,ap_k1 hk,h.ty _ _ hn]
theorem HeadR.end_{t y:TyT}(hy:HeadR R t y):y.k≠1∨lk y.v R.tys=none:=by
 induction hy with
 | not h=>exact .inl h
 | free _ h=>exact .inr h
 | go _ _ _ ih=>exact ih
inductive ThereR (R:Raw):Int×Int→Int×Int→Prop
 | not {q:Int×Int} (h:q.1≠2):ThereR R q q
 | free {q:Int×Int} (h:q.1=2) (hn:lk q.2 R.prs=none):ThereR R q q
 | go {q x y:Int×Int} (h:q.1=2) (hn:lk q.2 R.prs=some x) (hr:ThereR R x y):ThereR R q y
theorem there_ex{a b c:Int→Nat}(hk:Rk R a b c):∀ (N:Nat)(q:Int×Int),(q.1=2→lk q.2 R.prs≠none→b q.2<N)→∃ y,ThereR R q y
 | 0,q,h=>by
  by_cases c1:q.1=2
  ·cases e:lk q.2 R.prs with
   | none=>exact⟨q,.free c1 e⟩
   | some x=>have:=h c1 (by rw[e];simp);omega
  ·exact⟨q,.not c1⟩
 | N+1,q,h=>by
  by_cases c1:q.1=2
  ·cases e:lk q.2 R.prs with
   | none=>exact⟨q,.free c1 e⟩
   | some x =>
    have h0:=h c1 (by rw[e];simp)
    obtain⟨y,hy⟩:=there_ex hk N x (fun k1 k2=>by have:=hk.pr q.2 x e k1 k2;omega)
    exact⟨y,.go c1 e hy⟩
  ·exact⟨q,.not c1⟩
theorem ThereR.same(h:Rep R s){q y:Int×Int}(hy:ThereR R q y):(if y.1=2 then s.pr y.2 else y)=if q.1=2 then s.pr q.2 else q:=by
 induction hy with
 | not _=>rfl
 | free _ _=>rfl
 | go hk hn _ ih=>rw[ih,if_pos hk,h.pr _ _ hn]
theorem ThereR.end_(h:Rep R s){q y:Int×Int}(hy:ThereR R q y):y=if q.1=2 then s.pr q.2 else q:=by
 rw[← hy.same h]
 have:y.1≠2∨(y.1=2∧lk y.2 R.prs=none):=by
  induction hy with
  | not h=>exact .inl h
  | free h1 h=>exact .inr ⟨h1,h⟩
  | go _ _ _ ih=>exact ih
 rcases this with c|⟨c,e⟩
 ·rw[if_neg c]
 ·rw[if_pos c,h.pr0 _ e];exact Prod.ext c rfl
def thF(s:Sub)(f:Fd):Fd:=⟨f.lb,(pre s f).1,(pre s f).2,if (pre s f).1=0 then .zero else f.t⟩
theorem apF_th{s:Sub}(hs:SubOk s)(f:Fd):apF s (thF s f)=apF s f:=by
 have e:pre s (thF s f)=pre s f:=by
  have:=fix_pre (apF_fix hs f)
  have h1:(apF s f).pr=(pre s f).1:=apF_pr s f
  have h2:(apF s f).p=(pre s f).2:=apF_p s f
  unfold pre at this ⊢
  rw[h1,h2] at this
  exact this
 rw[apF_pre,apF_pre s f,e]
 by_cases c:(pre s f).1=0
 ·rw[if_pos c,if_pos c];rfl
 ·rw[if_neg c,if_neg c]
  show(⟨f.lb,_,_,ap s (if (pre s f).1=0 then .zero else f.t)⟩:Fd)=_
  rw[if_neg c]
end
inductive ChainR (R:Raw):Int→List Fd→Int→Prop
 | stop {r:Int} (h:r=0∨lk r R.rws=none):ChainR R r [] r
 | go {r e:Int} {q:List Fd×Int} {l:List Fd} (h:r≠0) (hn:lk r R.rws=some q) (hr:ChainR R q.2 l e):ChainR R r (q.1++l) e
theorem Eqv.trans{l m n:List Fd}{e:Int}(h:Eqv l m e)(k:Eqv m n e):Eqv l n e:=⟨fun c=>(h.1 c).trans (k.1 c),fun c=>(h.2 c).trans (k.2 c)⟩
theorem Eqv.app(a:List Fd){l m:List Fd}{e:Int}(h:Eqv l m e):Eqv (a++l) (a++m) e:=⟨fun c=>by rw[List.filter_append,List.filter_append,h.1 c],fun c=>by rw[h.2 c]⟩
theorem Eqv.nrm{l m:List Fd}{e:Int}(h:Eqv l m e):nrm l e=Go.Proofs.YtoimdiballicnaaGreatDoor.nrm m e:=by
 unfold Go.Proofs.YtoimdiballicnaaGreatDoor.nrm
 by_cases c:e=0
 ·rw[if_pos c,if_pos c,srt_filter,srt_filter,h.1 c]
 ·rw[h.2 c]
section
variable {R:Raw} {s:Sub}
theorem chain_ex{a b c:Int→Nat}(hk:Rk R a b c):∀ (N:Nat)(r:Int),(lk r R.rws≠none→c r<N)→∃ l e,ChainR R r l e
 | 0,r,h=>by
  cases e:lk r R.rws with
  | none=>exact⟨[],r,.stop (.inr e)⟩
  | some x=>have:=h (by rw[e];simp);omega
 | N+1,r,h=>by
  by_cases c0:r=0
  ·exact⟨[],r,.stop (.inl c0)⟩
  cases e:lk r R.rws with
  | none=>exact⟨[],r,.stop (.inr e)⟩
  | some x =>
   have h0:=h (by rw[e];simp)
   obtain⟨l,d,hl⟩:=chain_ex hk N x.2 (fun k2=>by have:=hk.rw_ r x e k2;omega)
   exact⟨_,d,.go c0 e hl⟩
theorem ChainR.same(h:Rep R s)(hs:s.ok){r e:Int}{l:List Fd}(hl:ChainR R r l e):(s.rw r).2=e∧Eqv (s.rw r).1 (apFs s l) e:=by
 induction hl with
 | stop hr =>
  rename_i r
  have:s.rw r=([],r):=by
   rcases hr with c|c
   ·rw[c];exact hs
   ·exact h.rw0 r c
  rw[this];exact⟨rfl,Eqv.refl _ _⟩
 | go h0 hn _ ih =>
  obtain⟨h1,h2⟩:=h.rw_ _ _ hn
  rw[ih.1] at h1 h2
  refine⟨h1,h2.trans ?_⟩
  rw[apFs_map,apFs_map,List.map_append,← apFs_map,← apFs_map]
  exact ih.2.app _
theorem thF_lb(s:Sub)(f:Fd):(thF s f).lb=f.lb:=rfl
theorem row_same(h:Rep R s)(hs:SubOk s){r e:Int}{fs l:List Fd}(hl:ChainR R r l e):apFs s (nrm ((fs++l).map (thF s)) e).1=(apRow s fs r).1∧(apRow s fs r).2=e:=by
 obtain⟨h1,h2⟩:=hl.same h hs.ok
 have h3:apRow s fs r=nrm (apFs s ((fs++l).map (thF s))) e:=by
  unfold apRow
  rw[h1,(h2.app (apFs s fs)).nrm]
  congr 1
  rw[apFs_map,apFs_map,apFs_map,List.map_map,← List.map_append]
  exact List.map_congr_left (fun f _=>(apF_th hs f).symm)
 rw[h3]
 refine⟨?_,rfl⟩
 unfold nrm
 dsimp only
 have hsr:srt (apFs s ((fs++l).map (thF s)))=apFs s (srt ((fs++l).map (thF s))):=by rw[apFs_map,apFs_map,srt_map _ (apF_lb s)]
 rw[hsr]
 by_cases c:e=0
 ·rw[if_pos c,if_pos c,apFs_map,apFs_map,List.filter_map]
  congr 1
  refine List.filter_congr (fun f hf=>?_)
  obtain⟨g,_,rfl⟩:=List.mem_map.1 (srt_mem.1 hf)
  have:(apF s (thF s g)).pr=(thF s g).pr:=by rw[apF_th hs,apF_pr];rfl
  simp[here,Function.comp,this]
 ·rw[if_neg c,if_neg c]
end
end Go.Proofs.YtoimdiballicnaaGreatDoor
