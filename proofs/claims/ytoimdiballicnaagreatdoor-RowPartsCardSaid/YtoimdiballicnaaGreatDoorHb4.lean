/- A part of the proof: Jc. -/
import Derived.Test.YtoimdiballicnaaGreatDoorHb1
import Derived.Test.YtoimdiballicnaaGreatDoorHb2
namespace Go.Proofs.YtoimdiballicnaaGreatDoor
open Go.RowKit
set_option linter.all false
set_option maxHeartbeats 16000000
set_option maxRecDepth 100000
structure Fct where
 kind:Int
 pres:Int
 ls:List (List UInt8)
def roleOf(x:Fct):Role:=if x.kind=1 then .ty else if x.kind=2 then .pr else .rw x.pres x.ls
theorem roleOf_no(x:Fct):roleOf x≠.no:=by
 unfold roleOf
 split
 ·simp
 ·split <;> simp
def ctxL(l:List (Int×Fct)):Ctx:=fun v=>match lk v l with
 | some x=>roleOf x
 | none => .no
theorem ctxL_no{l:List (Int×Fct)}{v:Int}:ctxL l v≠.no↔∃ x,lk v l=some x:=by
 unfold ctxL
 cases h:lk v l with
 | none=>simp
 | some x=>simp[roleOf_no]
theorem ctxL_some{l:List (Int×Fct)}{v:Int}{x:Fct}(h:lk v l=some x):ctxL l v=roleOf x:=by unfold ctxL;rw[h]
def FctsOk(l:List (Int×Fct)):Prop:=∀ v x,lk v l=some x→1≤v∧(x.kind=1∨x.kind=2∨(x.kind=3∧Ri x.ls))
theorem FctsOk.pos{l:List (Int×Fct)}(h:FctsOk l):Pos (ctxL l):=fun v hv=>by
 obtain⟨x,hx⟩:=ctxL_no.1 hv
 exact(h v x hx).1
theorem FctsOk.rise{l:List (Int×Fct)}(h:FctsOk l):Rise (ctxL l):=fun v k L hv=>by
 obtain⟨x,hx⟩:=ctxL_no.1 (by rw[hv];simp:ctxL l v≠.no)
 rw[ctxL_some hx] at hv
 unfold roleOf at hv
 rcases(h v x hx).2 with c|c|⟨c,d⟩
 ·rw[if_pos c] at hv;cases hv
 ·rw[if_neg (by omega),if_pos c] at hv;cases hv
 ·rw[if_neg (by omega),if_neg (by omega)] at hv;cases hv;exact d
structure Mst (l l':List (Int×Fct))(VP:(Int→Prop)→Prop):Prop where
 le:Le (ctxL l) (ctxL l')
 ok:FctsOk l'
 sup:∀ P:Int→Prop,VP P→(∀ u,ctxL l u≠.no→P u)→∀ u,ctxL l' u≠.no→P u
section
variable {l l' l'':List (Int×Fct)} {V V' V'':(Int→Prop)→Prop}
theorem Mst.refl(h:FctsOk l):Mst l l V:=⟨.refl _,h,fun _ _ h=>h⟩
theorem Mst.trans(h:Mst l l' V)(k:Mst l' l'' V')(hV:∀ P,V'' P→V P∧V' P):Mst l l'' V'':=⟨h.le.trans k.le,k.ok,fun P hP h0=>k.sup P (hV P hP).2 (h.sup P (hV P hP).1 h0)⟩
theorem Mst.imp(h:Mst l l' V)(hV:∀ P,V' P→V P):Mst l l' V':=⟨h.le,h.ok,fun P hP h0=>h.sup P (hV P hP) h0⟩
def nameL(l:List (Int×Fct))(v kind:Int):List (Int×Fct):=match lk v l with
 | some _=>l
 | none=>(v,⟨kind,0,[]⟩)::l
def nameBad(l:List (Int×Fct))(v kind:Int):Bool:=decide (v<1)||(match lk v l with
 | some x=>x.kind != kind
 | none=>false)
theorem put_mst(h:FctsOk l){v:Int}{x:Fct}(hv:1≤v)(hx:x.kind=1∨x.kind=2∨(x.kind=3∧Ri x.ls))(ho:∀ y,lk v l=some y→roleOf y=roleOf x):Mst l ((v,x)::l) (fun P=>P v)∧ctxL ((v,x)::l) v=roleOf x:=by
 have e0:∀ u,u≠v→lk u ((v,x)::l)=lk u l:=fun u hu=>by rw[lk,if_neg (Ne.symm hu)]
 have e1:lk v ((v,x)::l)=some x:=by rw[lk,if_pos rfl]
 refine⟨⟨fun u hu=>?_,fun u y hy=>?_,fun P hP h0 u hu=>?_⟩,ctxL_some e1⟩
 ·by_cases c:u=v
  ·subst c
   obtain⟨y,hy⟩:=ctxL_no.1 hu
   rw[ctxL_some e1,ctxL_some hy,ho y hy]
  ·unfold ctxL;rw[e0 u c]
 ·by_cases c:u=v
  ·subst c;rw[e1] at hy;cases hy;exact⟨hv,hx⟩
  ·rw[e0 u c] at hy;exact h u y hy
 ·by_cases c:u=v
  ·subst c;exact hP
  ·refine h0 u ?_
   obtain⟨y,hy⟩:=ctxL_no.1 hu
   rw[e0 u c] at hy
   exact ctxL_no.2 ⟨y,hy⟩
theorem name_mst(h:FctsOk l){v kind:Int}(hb:nameBad l v kind=false)(hk:kind=1∨kind=2):Mst l (nameL l v kind) (fun P=>P v)∧1≤v∧ctxL (nameL l v kind) v=(if kind=1 then .ty else .pr):=by
 unfold nameBad at hb
 simp only[Bool.or_eq_false_iff,decide_eq_false_iff_not] at hb
 obtain⟨h1,h2⟩:=hb
 have hv:1≤v:=by omega
 unfold nameL
 cases e:lk v l with
 | some x =>
  rw[e] at h2
  have h3:x.kind=kind:=by simpa using h2
  refine⟨.refl h,hv,?_⟩
  dsimp only
  rw[ctxL_some e]
  unfold roleOf
  rcases hk with c|c
  ·rw[h3,if_pos c,if_pos c]
  ·rw[h3,if_neg (by omega),if_pos c,if_neg (by omega)]
 | none =>
  dsimp only
  have:=put_mst (x:=⟨kind,0,[]⟩) h hv (hk.imp id .inl) (fun y hy=>by rw[e] at hy;cases hy)
  refine⟨this.1,hv,?_⟩
  rw[this.2]
  unfold roleOf
  rcases hk with c|c
  ·simp only[c];rfl
  ·simp only[c];rfl
def rowBad(l:List (Int×Fct))(r k:Int)(L:List (List UInt8)):Bool:=match lk r l with
 | some x=>x.kind != 3||x.pres != k||x.ls != L
 | none=>false
theorem row_mst(h:FctsOk l){r k:Int}{L:List (List UInt8)}(hr:1≤r)(hL:Ri L)(hb:rowBad l r k L=false):Mst l ((r,⟨3,k,L⟩)::l) (fun P=>P r)∧ctxL ((r,⟨3,k,L⟩)::l) r = .rw k L:=by
 refine put_mst h hr (.inr (.inr ⟨rfl,hL⟩)) (fun y hy=>?_)
 unfold rowBad at hb
 rw[hy] at hb
 simp at hb
 obtain⟨⟨h1,h2⟩,h3⟩:=hb
 obtain⟨a,b,c⟩:=y
 simp only at h1 h2 h3
 subst h1;subst h2;subst h3;rfl
end
section
variable {l l' l'':List (Int×Fct)}
def MayT(l l':List (Int×Fct))(t:TyT):Prop:=Mst l l' (fun P=>VT P t)∧WfT (ctxL l') t
def MayTs(l l':List (Int×Fct))(t:List TyT):Prop:=Mst l l' (fun P=>VTs P t)∧WfTs (ctxL l') t
def MayFs(l l':List (Int×Fct))(t:List Fd):Prop:=Mst l l' (fun P=>VFs P t)∧WfFs (ctxL l') t
theorem vTs_app{P:Int→Prop}:∀ {a b:List TyT},VTs P (a++b)↔VTs P a∧VTs P b
 | [],b=>by simp[VTs]
 | x::a,b=>by rw[List.cons_append,VTs,VTs,vTs_app (a:=a),and_assoc]
theorem vFs_app{P:Int→Prop}:∀ {a b:List Fd},VFs P (a++b)↔VFs P a∧VFs P b
 | [],b=>by simp[VFs]
 | x::a,b=>by rw[List.cons_append,VFs,VFs,vFs_app (a:=a),and_assoc]
theorem wfTs_app{G:Ctx}:∀ {a b:List TyT},WfTs G (a++b)↔WfTs G a∧WfTs G b
 | [],b=>by simp[WfTs]
 | x::a,b=>by rw[List.cons_append,WfTs,WfTs,wfTs_app (a:=a),and_assoc]
theorem MayTs.nil(h:FctsOk l):MayTs l l []:=⟨.refl h,trivial⟩
theorem MayFs.nil(h:FctsOk l):MayFs l l []:=⟨.refl h,trivial⟩
theorem MayTs.app{a:List TyT}{x:TyT}(h:MayTs l l' a)(k:MayT l' l'' x):MayTs l l'' (a++[x]):=
 ⟨h.1.trans k.1 (fun P hP=>by rw[vTs_app] at hP;exact⟨hP.1,hP.2.1⟩),wfTs_app.2 ⟨wfTs_le k.1.le h.2,k.2,trivial⟩⟩
theorem MayFs.app{a:List Fd}{x:Fd}(h:MayFs l l' a)(k:Mst l' l'' (fun P=>VF P x))(kw:WfF (ctxL l'') x):MayFs l l'' (a++[x]):=
 ⟨h.1.trans k (fun P hP=>by rw[vFs_app] at hP;exact⟨hP.1,hP.2.1⟩),wfFs_app (wfFs_le k.le h.2) ⟨kw,trivial⟩⟩
theorem MayFs.f0{a:List Fd}{x:Fd}(h:MayFs l l' a)(h0:x.pr=0)(h1:x.p=0)(h2:x.t = .zero):MayFs l l' (a++[x]):=by
 obtain⟨lb,pr,p,t⟩:=x
 simp only at h0 h1 h2
 subst h0;subst h1;subst h2
 exact h.app (.refl h.1.ok) (.inl ⟨rfl,rfl,rfl⟩)
theorem MayFs.f1{a:List Fd}{x:Fd}(h:MayFs l l' a)(h0:x.pr=1)(h1:x.p=0)(h2:MayT l' l'' x.t):MayFs l l'' (a++[x]):=by
 obtain⟨lb,pr,p,t⟩:=x
 simp only at h0 h1 h2
 subst h0;subst h1
 exact h.app (h2.1.imp (fun P hP=>by rw[VF] at hP;exact hP.2)) (.inr (.inl ⟨rfl,rfl,h2.2⟩))
theorem MayFs.f2{a:List Fd}{x:Fd}(h:MayFs l l' a)(h0:x.pr=2)(hb:nameBad l' x.p 2=false)(h2:MayT (nameL l' x.p 2) l'' x.t):MayFs l l'' (a++[x]):=by
 obtain⟨lb,pr,p,t⟩:=x
 simp only at h0 hb h2
 subst h0
 obtain⟨n1,n2,n3⟩:=name_mst h.1.ok hb (.inr rfl)
 refine h.app (n1.trans h2.1 (fun P hP=>by rw[VF] at hP;exact⟨hP.1 rfl,hP.2⟩)) (.inr (.inr ⟨rfl,n2,?_,h2.2⟩))
 rw[h2.1.le p (by rw[n3];simp),n3];rfl
theorem MayT.var(h:FctsOk l){v:Int}(hb:nameBad l v 1=false):MayT l (nameL l v 1) (.mk 1 v [] [] 0):=by
 obtain⟨n1,n2,n3⟩:=name_mst h hb (.inl rfl)
 refine⟨n1.imp (fun P hP=>by rw[VT] at hP;exact hP.1 rfl),?_⟩
 rw[WfT]
 exact⟨rfl,fun _=>⟨n2,n3⟩,fun c=>absurd rfl c,trivial,trivial,by rw[if_neg (by decide)];exact⟨rfl,rfl⟩⟩
theorem MayT.pln{k:Int}{args:List TyT}(h1:k≠1)(hk:argN k=some args.length)(hr:¬ rwd k=true)(ha:MayTs l l' args):MayT l l' (.mk k 0 args [] 0):=by
 refine⟨ha.1.imp (fun P hP=>by rw[VT] at hP;exact hP.2.1),?_⟩
 rw[WfT]
 exact⟨hk,fun c=>absurd c h1,fun _=>rfl,ha.2,trivial,by rw[if_neg hr];exact⟨rfl,rfl⟩⟩
theorem MayT.row0{k:Int}{fs:List Fd}(hr:rwd k=true)(ha:MayFs l l' fs)(hl:Ri (labs fs))(hf:∀ f ∈ fs,f.lb≠[]∧f.pr≠0):MayT l l' (.mk k 0 [] fs 0):=by
 have h1:k≠1:=by rintro rfl;exact absurd hr (by decide)
 have h2:argN k=some 0:=by unfold rwd at hr;unfold argN;rw[if_pos];simp at hr;omega
 refine⟨ha.1.imp (fun P hP=>by rw[VT] at hP;exact hP.2.2.1),?_⟩
 rw[WfT]
 exact⟨h2,fun c=>absurd c h1,fun _=>rfl,trivial,ha.2,by rw[if_pos hr];exact⟨hl,fun f hfm=>⟨(hf f hfm).1,id,fun c=>absurd c (hf f hfm).2⟩,.inl rfl⟩⟩
theorem MayT.row1{k r:Int}{fs:List Fd}(hr:rwd k=true)(ha:MayFs l l' fs)(hl:Ri (labs fs))(hf:∀ f ∈ fs,f.lb≠[])(h1:1≤r)(hb:rowBad l' r k (labs fs)=false):MayT l ((r,⟨3,k,labs fs⟩)::l') (.mk k 0 [] fs r):=by
 have h3:k≠1:=by rintro rfl;exact absurd hr (by decide)
 have h2:argN k=some 0:=by unfold rwd at hr;unfold argN;rw[if_pos];simp at hr;omega
 obtain⟨n1,n2⟩:=row_mst ha.1.ok h1 hl hb
 refine⟨ha.1.trans n1 (fun P hP=>by rw[VT] at hP;exact⟨hP.2.2.1,hP.2.2.2 (by omega)⟩),?_⟩
 rw[WfT]
 exact⟨h2,fun c=>absurd c h3,fun _=>rfl,trivial,wfFs_le n1.le ha.2,by rw[if_pos hr];exact⟨hl,fun f hfm=>⟨hf f hfm,id,fun _=>by omega⟩,.inr ⟨h1,labs fs,n2,hl,fun x=>by simp⟩⟩⟩
end
end Go.Proofs.YtoimdiballicnaaGreatDoor
