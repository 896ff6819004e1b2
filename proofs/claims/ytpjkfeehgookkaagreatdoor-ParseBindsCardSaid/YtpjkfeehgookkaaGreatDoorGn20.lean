/- A part of the proof: Fu, Fv. -/
import Derived.Test.YtpjkfeehgookkaaGreatDoorGn18
namespace Go.Proofs.YtpjkfeehgookkaaGreatDoor
open Go.RowKit
set_option linter.all false
set_option maxHeartbeats 16000000
set_option maxRecDepth 100000
open List renaming length_cons→Lc',length_append→La',getElem?_eq_getElem→Lg',cons_append→Lp',length_nil→Ln',append_assoc→Ls'
open Nat renaming le_refl→Nr'
theorem Ep(p:UInt8→Bool)(hp:p 41=false)(b:LB):∀ l:LB,(l++41::b).takeWhile p=l.takeWhile p
 | []=>by rw[List.nil_append,List.takeWhile_cons_of_neg (by simp[hp])];rfl
 | c::l=>by
  by_cases h:p c=true
  ·rw[Lp',List.takeWhile_cons_of_pos h,List.takeWhile_cons_of_pos h,Ep p hp b l]
  ·rw[Lp',List.takeWhile_cons_of_neg h,List.takeWhile_cons_of_neg h]
theorem My:∀ x ∈ Ay,x.length≤2∧x[1]?≠some 41:=by decide
theorem Oi(c:UInt8)(r b:LB){x:LB}(hx:x ∈ Ay):x.isPrefixOf (c::(r++41::b))=x.isPrefixOf (c::r):=by
 rw[Bool.eq_iff_iff,List.isPrefixOf_iff_prefix,List.isPrefixOf_iff_prefix];obtain⟨h1,h2⟩:=My x hx;constructor
 ·intro h
  cases r with
  | cons d r=>exact List.prefix_of_prefix_length_le h (List.prefix_append (c::d::r) (41::b)) (by simp only[Lc'];omega)
  | nil =>
   rcases Nat.lt_or_ge 1 x.length with hl|hl
   ·exfalso;obtain⟨t,ht⟩:=h;have h3:(x++t)[1]?=some 41:=by rw[ht];rfl
    rw[List.getElem?_append_left hl] at h3;exact h2 h3
   ·exact List.prefix_of_prefix_length_le h (List.prefix_append [c] (41::b)) (by simpa using hl)
 ·intro h;exact h.trans (List.prefix_append (c::r) (41::b))
theorem Qu{c:UInt8}{r:LB}{x:Int×List UInt8×Int×Nat}(h:tok (c::r)= .ok x)(b:LB):tok (c::(r++41::b))= .ok x:=by
 have e1:Bn (c::(r++41::b))=Bn (c::r):=Ep Cq (by decide) b (c::r);have e2:Bn (r++41::b)=Bn r:=Ep Cq (by decide) b r;have eh:(r++41::b).head?.any Cj=r.head?.any Cj:=by cases r <;> rfl
 have e3:Ay.find? (fun x=>x.isPrefixOf (c::(r++41::b)))=Ay.find? (fun x=>x.isPrefixOf (c::r)):=Hd _ (fun x hx=>Oi c r b hx)
 have hq:c=34→∃ k,D1 r=some k:=fun h34=>by
  subst h34;rw[tok,if_neg (by decide),if_neg (by decide),if_neg (fun x=>absurd x.1 (by decide)),if_neg (by decide),if_pos rfl] at h
  cases eq:D1 r with
  | none=>rw[eq] at h;cases h
  | some k=>exact⟨k,rfl⟩
 rw[← h];unfold tok;simp only[e1,e2,eh,e3];by_cases h34:c=34
 ·obtain⟨k,hk⟩:=hq h34;subst h34;have hqq:D1 (r++41::b)=some k:=Oa (41::b) r false k hk;have hle:=Mq r false k hk
  have et:(34::(r++41::b)).take (1+k)=(34::r).take (1+k):=by
   rw[← Lp',List.take_append_of_le_length (by simp;omega)]
  rw[hqq,hk];simp only[et]
 ·simp only[if_neg h34]
theorem tok41(b:LB):tok (41::b)= .ok (7,[41],0,1):=by rfl
theorem tok40(b:LB):tok (40::b)= .ok (7,[40],0,1):=by rfl
def R7(ts:List Tok)(a:Nat):Except (Int×Nat) (List Tok)→Except (Int×Nat) (List Tok)
 | .error e => .error e
 | .ok ys => .ok (ts.dropLast++⟨7,a,[41],0⟩::ys)
theorem Hf(b:LB):∀ (f a:Nat)(l:LB)(ts:List Tok),l.length≤f→Cs f a l = .ok ts→∀ g,l.length+1+b.length≤g →
  Cs g a (l++41::b)=R7 ts (a+l.length) (Cs b.length (a+l.length+1) b)
 | f,a,[],ts,_,h,g,hg=>by
  rw[Gh] at h;cases h
  obtain⟨g',rfl⟩:∃ g',g=g'+1:=⟨g-1,by simp at hg;omega⟩
  rw[List.nil_append,Eg g' a b (by rfl),tok41,Ln',Nat.add_zero];simp only[List.drop_succ_cons,List.drop_zero];rw[Fq b.length g' b.length (a+1) b (by omega) (by simp at hg;omega) (by omega)]
  cases Cs b.length (a+1) b with
  | error x=>rfl
  | ok ys=>rfl
 | 0,a,c::r,ts,hf,_,_,_=>by simp at hf
 | f+1,a,c::r,ts,hf,h,g,hg=>by
  simp only[Lc'] at hf hg ⊢
  obtain⟨g',rfl⟩:∃ g',g=g'+1:=⟨g-1,by omega⟩
  rw[Lp']
  cases hb:Cv c with
  | true =>
   rw[Dq f a r hb] at h;rw[Dq g' a _ hb,Hf b f (a+1) r ts (by omega) h g' (by omega)]
   rw[show a+1+r.length=a+(r.length+1) by omega]
  | false =>
   rw[Eg f a r hb] at h;rw[Eg g' a _ hb]
   cases ht:tok (c::r)with
   | error x=>rw[ht] at h;cases h
   | ok x =>
    obtain⟨k,t,n,m⟩:=x;have hm:=Ex ht;rw[Lc'] at hm;rw[ht] at h;rw[Qu ht b];simp only at h ⊢
    cases hl:Cs f (a+m) ((c::r).drop m)with
    | error x=>rw[hl] at h;cases h
    | ok l' =>
     rw[hl] at h;cases h
     have ed:(c::(r++41::b)).drop m=(c::r).drop m++41::b:=by
      rw[← Lp',List.drop_append_of_le_length (by simpa using hm.2)]
     have ln:((c::r).drop m).length=r.length+1-m:=by rw[List.length_drop,Lc']
     rw[ed,Hf b f (a+m) _ l' (by rw[ln];omega) hl g' (by rw[ln];omega),ln];have e2:a+m+(r.length+1-m)=a+(r.length+1):=by omega
     rw[e2];obtain⟨ys,hys,_⟩:=Ic hl
     cases Cs b.length (a+(r.length+1)+1) b with
     | error x=>rfl
     | ok zs =>
      have hn:l'≠[]:=by rw[hys];simp
      simp only[R7,List.dropLast_cons_of_ne_nil hn,Lp']
abbrev Sp:=Int×List UInt8×Int
def stR:Except (Int×Nat) (List Tok)→Option (List Sp)
 | .error _=>none
 | .ok ts=>some (ts.map C7)
theorem Qr(d:Nat)(r:Except (Int×Nat) (List Tok)):stR (Og d r)=stR r:=by
 cases r with
 | error e=>rfl
 | ok ts=>simp[stR,Og,C7,Ss]
def Cx(l:LB):Option (List Sp):=stR (Cs l.length 0 l)
theorem K1{f:Nat}(a:Nat){l:LB}(hf:l.length≤f):stR (Cs f a l)=Cx l:=by
 have h:=Hg a f 0 l;rw[Nat.zero_add] at h;rw[h,Qr,Fq l.length f l.length 0 l (Nr' _) hf (Nr' _)];rfl
theorem Dr{c:UInt8}(l:LB)(h:Cv c=true):Cx (c::l)=Cx l:=by
 unfold Cx;rw[Lc',Dq _ _ _ h,K1 1 (Nr' _)];rfl
theorem Jp{c:UInt8}{r:LB}{k:Int}{t:LB}{n:Int}{m:Nat}(hc:Cv c=false)(ht:tok (c::r)= .ok (k,t,n,m)):Cx (c::r)=(Cx ((c::r).drop m)).map ((k,t,n):: ·):=by
 have hm:=Ex ht;rw[Lc'] at hm;have key:=K1 (f:=r.length) (0+m) (l:=(c::r).drop m) (by rw[List.length_drop,Lc'];omega);rw[← key];unfold Cx;rw[Lc',Eg _ _ _ hc,ht];simp only
 cases Cs r.length (0+m) ((c::r).drop m)with
 | error e=>rfl
 | ok l=>rfl
theorem Id(l:LB):Cx (40::l)=(Cx l).map ((7,[40],0):: ·):=Jp (by rfl) (tok40 l)
theorem N3{l:LB}{L:List Sp}(h:Cx l=some (L++[(0,[],0)]))(b:LB):Cx (l++41::b)=(Cx b).map fun x=>L++(7,[41],0)::x:=by
 unfold Cx at h
 cases hl:Cs l.length 0 l with
 | error e=>rw[hl] at h;cases h
 | ok ts =>
  rw[hl] at h;simp only[stR,Option.some.injEq] at h;have h2:=Hf b l.length 0 l ts (Nr' _) hl (l++41::b).length (by rw[La',Lc'];omega);rw[← K1 (f:=b.length) (0+l.length+1) (Nr' _)];unfold Cx;rw[h2]
  cases Cs b.length (0+l.length+1) b with
  | error e=>rfl
  | ok ys =>
   obtain⟨zs,rfl,_⟩:=Ic hl;rw[List.map_append] at h;have h3:=List.append_inj_left' h rfl;simp only[R7,stR,Option.map_some,List.dropLast_concat,List.map_append,List.map_cons,h3];rfl
theorem lexS_of{s:LB}{ts:List Tok}(h:Bw s = .ok ts):Cx s=some (ts.map C7):=by
 unfold Bw at h;split at h
 ·cases h
 ·unfold Cx;rw[h];rfl
theorem Ho{s:LB}{L:List Sp}(h:Cx s=some L)(hs:s.length≤4096):∃ ts,Bw s = .ok ts∧ts.map C7=L:=by
 unfold Cx at h
 cases hl:Cs s.length 0 s with
 | error e=>rw[hl] at h;cases h
 | ok ts=>rw[hl] at h;cases h;exact⟨ts,by unfold Bw;rw[if_neg (by omega),hl],rfl⟩
theorem Sb{s:LB}{ts:List Tok}(h:Bw s = .ok ts):∃ L,ts.map C7=L++[(0,[],0)]∧Cx s=some (L++[(0,[],0)])∧ts.length=L.length+1:=by
 have h1:=lexS_of h;obtain⟨_,_,_,_,ys,rfl,_⟩:=Hp h;refine⟨ys.map C7,by rw[List.map_append];rfl,?_,by simp⟩;rw[h1,List.map_append];rfl
theorem S5{ts:List Tok}{L:List Sp}(h:ts.map C7=L){i:Nat}{k:Int}{tx:LB}{n:Int}(hi:L[i]?=some (k,tx,n)):∃ a,ts[i]?=some ⟨k,a,tx,n⟩:=by
 subst h;rw[List.getElem?_map] at hi
 cases hu:ts[i]? with
 | none=>rw[hu] at hi;cases hi
 | some u =>
  rw[hu] at hi;obtain⟨q',a',tx',n'⟩:=u;simp only[C7,Option.map_some,Option.some.injEq,Prod.mk.injEq] at hi;obtain⟨rfl,rfl,rfl⟩:=hi;exact⟨a',rfl⟩
theorem S3{ts:List Tok}{L:List Sp}(h:ts.map C7=L){i:Nat}{k:Int}{a:Nat}{tx:LB}{n:Int}(hi:ts[i]?=some ⟨k,a,tx,n⟩):L[i]?=some (k,tx,n):=by
 subst h;rw[List.getElem?_map,hi];rfl
def Lw(t:Tok):Prop:=It t=true∧t.text=[41]
theorem Jj{t:Tok}(h:Lw t)(ok:Bool){l:List LB}(hl:l.contains [41]=false):isB t ok l=false:=by
 unfold isB;rw[h.2,hl];simp
theorem Sx{t:Tok}(h:Lw t):t.k=6∨t.k=7:=by
 have:=h.1;simpa [It] using this
section
variable {t:Tok} (H:Lw t)
include H
theorem Ei{s:LB}{k:Bool→Cmd}(hs:[s].contains [41]=false)(h:B4 t (k false)):B4 t (C0 s k):=.look fun ok=>by
 rw[Jj H ok hs,if_neg (by decide)];exact h
theorem shut_is{l:List LB}{k:Bool→Cmd}(hs:l.contains [41]=false)(h:B4 t (k false)):B4 t (isC l k):=.look fun ok=>by
 rw[Jj H ok hs];exact h
theorem Mx(ok:Bool):Bu t ok=false:=by
 unfold Bu;rw[Jj H ok (by decide)];rcases Sx H with h|h <;> rw[h] <;> cases ok <;> rfl
theorem Qj:B4 t (body .atom):=.look fun ok=>by
 rw[Mx H,if_neg (by simp)];exact .fail
theorem Ql:B4 t (body .post):=.look fun ok=>Ei H (by decide) (by rw[if_neg (by decide)];exact .callE (Qj H))
theorem Sv:B4 t (body .app):=.look fun ok=>by
 rw[if_neg (by rcases Sx H with h|h <;> rw[h] <;> cases ok <;> decide),if_neg (by rw[H.2];simp[Bg])];exact .callE (Ql H)
theorem Oh:B4 t (body .unary):=.look fun ok=>Ei H (by decide) (by rw[if_neg (by decide)];exact Ei H (by decide) (by rw[if_neg (by decide)];exact .callE (Sv H)))
theorem Qm:B4 t (body .prod):=.callE (Oh H)
theorem Sz:B4 t (body .sum):=.callE (Qm H)
theorem Sw:B4 t (body .cmp):=.callE (Sz H)
theorem Su:B4 t (body .and):=.callE (Sw H)
theorem shut_or:B4 t (body .or):=.callE (Su H)
theorem Qk:B4 t (body .item):=by
 refine .look fun ok=>Ei H (by decide) ?_
 rw[if_neg (by decide)];refine shut_is H (by decide) ?_;rw[if_neg (by decide)];refine Ei H (by decide) ?_;rw[if_neg (by decide)];refine Ei H (by decide) ?_;rw[if_neg (by decide)];refine Ei H (by decide) ?_;rw[if_neg (by decide)];refine Ei H (by decide) ?_;rw[if_neg (by decide)];exact .callE (shut_or H)
theorem Sy:B4 t (body .seq):=.callE (Qk H)
end
theorem Run.mayN{ts:List Tok}{i:Nat}{ok:Bool}{t:Tok}(ht:ts[i]?=some t){s:LB}(hb:isB t ok [s]=false){k:Bool→Cmd}{r:Rs}{st':St}(h:Run ts (k false) ⟨i,ok⟩ r st'):Run ts (C0 s k) ⟨i,ok⟩ r st' :=
 .look ht (by simp only;rw[hb,if_neg (by decide)];exact h)
theorem Run.mayY{ts:List Tok}{i:Nat}{ok:Bool}{t:Tok}(ht:ts[i]?=some t){s:LB}(hb:isB t ok [s]=true){k:Bool→Cmd}{r:Rs}{st':St}(h:Run ts (k true) ⟨i+1,ok⟩ r st'):Run ts (C0 s k) ⟨i,ok⟩ r st' :=
 .look ht (by simp only;rw[hb,if_pos rfl];exact .adv h)
theorem Run.mustY{ts:List Tok}{i:Nat}{ok:Bool}{t:Tok}(ht:ts[i]?=some t){s:LB}(hb:isB t ok [s]=true){k:Cmd}{r:Rs}{st':St}(h:Run ts k ⟨i+1,ok⟩ r st'):Run ts (Bk s k) ⟨i,ok⟩ r st' :=
 .look ht (by simp only;rw[hb,if_pos rfl];exact .adv h)
theorem Ge{us:List Tok}{d e a b:Nat}{m m':Int}{x:Ah}{u:Tok}(h0:us[d]?=some ⟨7,a,[40],m⟩)(h1:us[d+1]?=some u)(hu:isB u true [[41]]=false)(hr:Run us (body .seq) ⟨d+1,true⟩ (.e x) ⟨e,true⟩)(h2:us[e]?=some ⟨7,b,[41],m'⟩):
  Run us (body .atom) ⟨d,true⟩ (.e x) ⟨e+1,true⟩:=by
 refine .look h0 ?_;simp only;rw[if_pos (by rfl)];refine .adv ?_;simp only;rw[if_neg (by decide),if_neg (by decide),if_neg (by decide),if_neg (by decide),if_neg (by decide),if_neg (by decide),if_neg (by decide)];refine Run.mayN h1 hu ?_;rw[if_neg (by decide)];exact .callE hr (.mustY h2 (by rfl) .retE)
theorem Rc{ts us:List Tok}{d n:Nat}{x:Ah}(hE:E1 ts)(hE2:E1 us)(hlen:ts.length=n+1){a b:Nat}{m m':Int}(h0:us[d]?=some ⟨7,a,[40],m⟩)
  (hT:∀ (j:Nat) (q:Int) (a:Nat) (tx:LB) (n':Int),j<n→ts[j]?=some ⟨q,a,tx,n'⟩→∃ a',us[j+(d+1)]?=some ⟨q,a',tx,n'⟩)
  (hC:us[n+(d+1)]?=some ⟨7,b,[41],m'⟩) (hr:Run ts (body .seq) ⟨0,true⟩ (.e x) ⟨n,true⟩):∃ y,A8 x y∧Run us (body .atom) ⟨d,true⟩ (.e y) ⟨n+d+2,true⟩:=by
 have hT2:∀ (j:Nat) (q:Int) (a:Nat) (tx:LB) (n':Int),ts[j]?=some ⟨q,a,tx,n'⟩→(∃ a',us[j+(d+1)]?=some ⟨q,a',tx,n'⟩)∨(True∧q=0∧∃ a' n'',us[j+(d+1)]?=some ⟨7,a',[41],n''⟩):=fun j q a tx n' ht=>by
  have hj:=(List.getElem?_eq_some_iff.1 ht).1;by_cases h:j<n
  ·exact .inl (hT j q a tx n' h ht)
  ·have e:j=n:=by omega
   subst e;refine .inr ⟨trivial,?_,b,m',hC⟩;by_cases hq:q=0
   ·exact hq
   ·have:=hE j _ ht hq;omega
 obtain⟨r2,hR,hr2⟩:=hr.sim hE hE2 hT2 (crE .seq) (fun _=>rfl)
 cases hR with
 | @e _ y hS =>
  simp only[Nat.zero_add] at hr2;have hn:0<ts.length:=by omega
  obtain⟨t0,ht0⟩:=At hn;obtain⟨q,a0,tx,n0⟩:=t0
  have hnd:¬ B4 ⟨q,a0,tx,n0⟩ (body .seq):=fun hd=>by
   have:=hd _ _ _ _ _ ht0 hr;cases this
  have hq:q≠0:=fun h=>by subst h;exact hnd L6
  have hns:isB ⟨q,a0,tx,n0⟩ true [[41]]=false:=by
   rw[Bool.eq_false_iff];intro hb;refine hnd (Sy ⟨?_,?_⟩)
   ·unfold isB at hb;simp at hb;exact hb.1
   ·unfold isB at hb;simp at hb;exact hb.2
  rcases hT2 _ _ _ _ _ ht0 with⟨a',h'⟩| ⟨_,h',_⟩
  ·rw[Nat.zero_add] at h';refine⟨y,hS,?_⟩;have:=Ge h0 h' hns hr2 hC;rw[show n+(d+1)+1=n+d+2 by omega] at this;exact this
  ·exact absurd h' hq
def Ht:Nat→NT
 | 0 => .seq|1 => .item|2 => .or|3 => .and|4 => .cmp|5 => .sum|6 => .prod|_ => .unary
def Hy:Nat→List LB
 | 0=>[[59]] | 1=>[[58,61]] | 2=>[[124,124]] | 3=>[[38,38]] | 4=>[[61],[60]] | 5=>[[43],[45]] | 6=>[[42],[47],[37]] | _=>[]
structure Lx (u:Tok)(l:Nat):Prop where
 dot:isB u true [[46]]=false
 beg:Bu u true=false
 lv:∀ L,l≤L→L<7→isB u true (Hy L)=false
def I7(us:List Tok)(i:Nat):Prop:=∃ a m,us[i]?=some ⟨7,a,[40],m⟩
theorem C4{us:List Tok}{i:Nat}(h:I7 us i){s:LB}(hs:[s].contains [40]=false){k:Bool→Cmd}{r:Rs}{st':St}(hr:Run us (k false) ⟨i,true⟩ r st'):Run us (C0 s k) ⟨i,true⟩ r st':=by
 obtain⟨a,m,h⟩:=h;refine Run.mayN h ?_ hr;show(true&&true&&[s].contains [40])=false;rw[hs];rfl
theorem S6{us:List Tok}{i j:Nat}{x:Ah}{u:Tok}{l:Nat}(ho:I7 us i)(hr:Run us (body .atom) ⟨i,true⟩ (.e x) ⟨j,true⟩)(hu:us[j]?=some u)(hs:Lx u l):Run us (body .unary) ⟨i,true⟩ (.e x) ⟨j,true⟩:=by
 have ho':=ho;obtain⟨a,m,h⟩:=ho'
 have hp:Run us (body .post) ⟨i,true⟩ (.e x) ⟨j,true⟩:=by
  refine .look h (C4 ho (by decide) ?_);rw[if_neg (by decide)];refine .callE hr (.callE (.look hu ?_) .retE);simp only;rw[hs.dot,if_neg (by decide)];exact .retE
 have ha:Run us (body .app) ⟨i,true⟩ (.e x) ⟨j,true⟩:=by
  refine .look h ?_;simp only;rw[if_neg (by simp),if_neg (by simp)];refine .callE hp (.callE (.look hu ?_) .retE);simp only;rw[hs.beg,if_neg (by decide)];exact .retE
 refine .look h (C4 ho (by decide) ?_);rw[if_neg (by decide)];refine C4 ho (by decide) ?_;rw[if_neg (by decide)];exact .callE ha .retE
theorem J6{us:List Tok}{i j:Nat}{x:Ah}{u:Tok}(ho:I7 us i)(hu:us[j]?=some u):∀ {L:Nat},L<7→isB u true (Hy L)=false→Run us (body (Ht (L+1))) ⟨i,true⟩ (.e x) ⟨j,true⟩→Run us (body (Ht L)) ⟨i,true⟩ (.e x) ⟨j,true⟩
 | 0,_,hb,hr=>by
  refine .callE hr (.look hu (Run.mayN hu hb ?_))
  rw[if_neg (by decide)];exact .retE
 | 1,_,hb,hr=>by
  have ho':=ho;obtain⟨a,m,h⟩:=ho';refine .look h (C4 ho (by decide) ?_);rw[if_neg (by decide)];refine .look h ?_;simp only;rw[show isB ⟨7,a,[40],m⟩ true [[102,117,110]]=false by rfl,if_neg (by decide)];refine C4 ho (by decide) ?_;rw[if_neg (by decide)];refine C4 ho (by decide) ?_;rw[if_neg (by decide)];refine C4 ho (by decide) ?_;rw[if_neg (by decide)];refine C4 ho (by decide) ?_;rw[if_neg (by decide)];refine .callE hr (.look hu (Run.mayN hu hb ?_))
  rw[if_neg (by decide)];exact .retE
 | 2,_,hb,hr=>by
  refine .callE hr (.look hu (Run.mayN hu hb ?_))
  rw[if_neg (by decide)];exact .retE
 | 3,_,hb,hr=>by
  refine .callE hr (.look hu (Run.mayN hu hb ?_))
  rw[if_neg (by decide)];exact .retE
 | 4,_,hb,hr=>by
  refine .callE hr (.look hu ?_);simp only
  rw[show isB u true [[61],[60]]=false from hb,if_neg (by decide)];exact .retE
 | 5,_,hb,hr=>by
  refine .callE hr (.callE (.look hu ?_) .retE);simp only
  rw[show isB u true [[43],[45]]=false from hb,if_neg (by decide)];exact .retE
 | 6,_,hb,hr=>by
  refine .callE hr (.callE (.look hu ?_) .retE);simp only
  rw[show isB u true [[42],[47],[37]]=false from hb,if_neg (by decide)];exact .retE
 | _+7,h,_,_=>by omega
theorem S7{us:List Tok}{i j:Nat}{x:Ah}{u:Tok}{l:Nat}(ho:I7 us i)(hu:us[j]?=some u)(hs:Lx u l)(L:Nat)(hL:l≤L):∀ (n:Nat),L+n≤7→Run us (body (Ht (L+n))) ⟨i,true⟩ (.e x) ⟨j,true⟩→Run us (body (Ht L)) ⟨i,true⟩ (.e x) ⟨j,true⟩
 | 0,_,hr=>hr
 | n+1,h,hr=>S7 ho hu hs L hL n (by omega) (J6 ho hu (by omega) (hs.lv _ (by omega) (by omega)) hr)
theorem Cl{us:List Tok}{i j:Nat}{x:Ah}{u:Tok}{l:Nat}(ho:I7 us i)(hu:us[j]?=some u)(hs:Lx u l)(L:Nat)(hL:l≤L)(h7:L≤7)(hr:Run us (body .atom) ⟨i,true⟩ (.e x) ⟨j,true⟩):Run us (body (Ht L)) ⟨i,true⟩ (.e x) ⟨j,true⟩:=
 S7 ho hu hs L hL (7-L) (by omega) (by rw[show L+(7-L)=7 by omega];exact S6 ho hr hu hs)
theorem Ey{us:List Tok}{i j:Nat}{x:Ah}{u:Tok}{l:Nat}(ho:I7 us i)(hu:us[j]?=some u)(hs:Lx u l)(L M:Nat)(hL:l≤L)(hM:L≤M)(h7:M≤7)(hr:Run us (body (Ht M)) ⟨i,true⟩ (.e x) ⟨j,true⟩):Run us (body (Ht L)) ⟨i,true⟩ (.e x) ⟨j,true⟩:=
 S7 ho hu hs L hL (M-L) (by omega) (by rw[show L+(M-L)=M by omega];exact hr)
def mkB(L:Nat)(tx:LB)(a:Int)(x y:Ah):Ah:=match L with
 | 0=>Dg 20 a [x,y]
 | 1=>opE 12 a [x,y]
 | 2=>Dg 22 a [x,y]
 | 3=>Dg 21 a [x,y]
 | _=>opE (Aw tx) a [x,y]
theorem Hr(L:Nat)(tx:LB)(a a':Int){x x' y y':Ah}(hx:A8 x x')(hy:A8 y y'):A8 (mkB L tx a x y) (mkB L tx a' x' y'):=by
 have h:=SL.two (R:=A8) hx hy;unfold mkB;split <;> exact sE0 h
def rOf(L:Nat):Nat:=if L≤3 then L else L+1
theorem Dy{us:List Tok}{i j k:Nat}{x y:Ah}{v u:Tok}(hv:us[j]?=some v)(hu:us[k]?=some u):∀ {L:Nat},L<7→isB v true (Hy L)=true→(5≤L→isB u true (Hy L)=false)→
  (L=1→I7 us i)→Run us (body (Ht (L+1))) ⟨i,true⟩ (.e x) ⟨j,true⟩→Run us (body (Ht (rOf L))) ⟨j+1,true⟩ (.e y) ⟨k,true⟩→Run us (body (Ht L)) ⟨i,true⟩ (.e (mkB L v.text v.at' x y)) ⟨k,true⟩
 | 0,_,hb,_,_,hx,hy=>by
  refine .callE hx (.look hv (Run.mayY hv hb ?_))
  rw[if_pos rfl];exact .callE hy .retE
 | 1,_,hb,_,ho,hx,hy=>by
  have ho:=ho rfl;have ho':=ho;obtain⟨a,m,h⟩:=ho';refine .look h (C4 ho (by decide) ?_);rw[if_neg (by decide)];refine .look h ?_;simp only;rw[show isB ⟨7,a,[40],m⟩ true [[102,117,110]]=false by rfl,if_neg (by decide)];refine C4 ho (by decide) ?_;rw[if_neg (by decide)];refine C4 ho (by decide) ?_;rw[if_neg (by decide)];refine C4 ho (by decide) ?_;rw[if_neg (by decide)];refine C4 ho (by decide) ?_;rw[if_neg (by decide)];refine .callE hx (.look hv (Run.mayY hv hb ?_))
  rw[if_pos rfl];exact .callE hy .retE
 | 2,_,hb,_,_,hx,hy=>by
  refine .callE hx (.look hv (Run.mayY hv hb ?_))
  rw[if_pos rfl];exact .callE hy .retE
 | 3,_,hb,_,_,hx,hy=>by
  refine .callE hx (.look hv (Run.mayY hv hb ?_))
  rw[if_pos rfl];exact .callE hy .retE
 | 4,_,hb,_,_,hx,hy=>by
  refine .callE hx (.look hv ?_);simp only;rw[show isB v true [[61],[60]]=true from hb,if_pos rfl]
  exact .adv (.callE hy .retE)
 | 5,_,hb,hn,_,hx,hy=>by
  refine .callE hx (.callE (.look hv ?_) .retE);simp only;rw[show isB v true [[43],[45]]=true from hb,if_pos rfl];refine .adv (.callE hy (.callE (.look hu ?_) .retE));simp only
  rw[show isB u true [[43],[45]]=false from hn (by decide),if_neg (by decide)];exact .retE
 | 6,_,hb,hn,_,hx,hy=>by
  refine .callE hx (.callE (.look hv ?_) .retE);simp only;rw[show isB v true [[42],[47],[37]]=true from hb,if_pos rfl];refine .adv (.callE hy (.callE (.look hu ?_) .retE));simp only
  rw[show isB u true [[42],[47],[37]]=false from hn (by decide),if_neg (by decide)];exact .retE
 | _+7,h,_,_,_,_,_=>by omega
theorem Py{us:List Tok}{i j k m:Nat}{x y z:Ah}{v v2 u:Tok}(hv:us[j]?=some v)(hv2:us[k]?=some v2)(hu:us[m]?=some u){L:Nat}(hL:L=5∨L=6)(hb:isB v true (Hy L)=true)(hb2:isB v2 true (Hy L)=true)(hn:isB u true (Hy L)=false)
  (hx:Run us (body (Ht (L+1))) ⟨i,true⟩ (.e x) ⟨j,true⟩) (hy:Run us (body (Ht (L+1))) ⟨j+1,true⟩ (.e y) ⟨k,true⟩) (hz:Run us (body (Ht (L+1))) ⟨k+1,true⟩ (.e z) ⟨m,true⟩):
  Run us (body (Ht L)) ⟨i,true⟩ (.e (mkB L v2.text v2.at' (mkB L v.text v.at' x y) z)) ⟨m,true⟩:=by
 rcases hL with rfl|rfl
 ·refine .callE hx (.callE (.look hv ?_) .retE);simp only;rw[show isB v true [[43],[45]]=true from hb,if_pos rfl];refine .adv (.callE hy (.callE (.look hv2 ?_) .retE));simp only;rw[show isB v2 true [[43],[45]]=true from hb2,if_pos rfl];refine .adv (.callE hz (.callE (.look hu ?_) .retE));simp only;rw[show isB u true [[43],[45]]=false from hn,if_neg (by decide)];exact .retE
 ·refine .callE hx (.callE (.look hv ?_) .retE);simp only;rw[show isB v true [[42],[47],[37]]=true from hb,if_pos rfl];refine .adv (.callE hy (.callE (.look hv2 ?_) .retE));simp only;rw[show isB v2 true [[42],[47],[37]]=true from hb2,if_pos rfl];refine .adv (.callE hz (.callE (.look hu ?_) .retE));simp only;rw[show isB u true [[42],[47],[37]]=false from hn,if_neg (by decide)];exact .retE
theorem Dh(a:Nat)(tx:LB)(n:Int):Lx ⟨0,a,tx,n⟩ 0:=⟨Ck _ _ _ _ _,by rfl,fun _ _ _=>Ck _ _ _ _ _⟩
theorem D8(a:Nat)(n:Int):Lx ⟨7,a,[41],n⟩ 0:=⟨Du _ _ _ _ (by decide),by rfl,fun L _ h=>Du _ _ _ _ (by
 match L,h with
 | 0,_=>decide
 | 1,_=>decide
 | 2,_=>decide
 | 3,_=>decide
 | 4,_=>decide
 | 5,_=>decide
 | 6,_=>decide
 | _+7,h=>omega)⟩
theorem Mp{s:LB}{us:List Tok}{T:Ah}{j:Nat}{u:Tok}(hl:Bw s = .ok us)(hr:Run us (body .seq) ⟨0,true⟩ (.e T) ⟨j,true⟩)(hu:us[j]?=some u)(hk:u.k=0){x:Ah}{er p:Int}(h:PR s x er p):
  (er=3∧x = .zero∧4096<szE T)∨(er=22∧x = .zero∧szE T≤4096∧D5 200 T≠none)∨(er=0∧x=T∧szE T≤4096∧D5 200 T=none):=by
 have key:∀ {ts':List Tok} {x':Ah} {st':St} {t':Tok},Bw s = .ok ts'→Run ts' (body .seq) ⟨0,true⟩ (.e x') st'→ts'[st'.i]?=some t'→x'=T∧st'=⟨j,true⟩∧t'=u:=by
  intro ts' x' st' t' hl' hr' ht';rw[hl] at hl';cases hl';obtain⟨e1,e2⟩:=hr.det hr';cases e1;cases e2;rw[hu] at ht';cases ht';exact⟨rfl,rfl,rfl⟩
 cases h with
 | lexErr h=>rw[hl] at h;cases h
 | syn hl' hr' ht' hb=>obtain⟨rfl,rfl,rfl⟩:=key hl' hr' ht';exact(hb.elim (fun h=>by cases h) (fun h=>h hk)).elim
 | many hl' hr' ht' _ _ hm=>obtain⟨rfl,rfl,rfl⟩:=key hl' hr' ht';exact .inl ⟨rfl,rfl,hm⟩
 | deep hl' hr' ht' _ _ hm hd=>obtain⟨rfl,rfl,rfl⟩:=key hl' hr' ht';exact .inr (.inl ⟨rfl,rfl,hm,by rw[hd];simp⟩)
 | ok hl' hr' ht' _ _ hm hd=>obtain⟨rfl,rfl,rfl⟩:=key hl' hr' ht';exact .inr (.inr ⟨rfl,rfl,hm,hd⟩)
def sgs:List LB:=[[59],[58,61],[124,124],[38,38],[61],[60],[43],[45],[42],[47],[37]]
def lvs:List Nat:=[0,1,2,3,4,4,5,5,6,6,6]
structure Sg (s:LB)(l:Nat):Prop where
 le:l≤6
 yes:∀ a n,isB ⟨7,a,s,n⟩ true (Hy l)=true
 no:∀ a n L,L<7→L≠l→isB ⟨7,a,s,n⟩ true (Hy L)=false
 dot:∀ a n,isB ⟨7,a,s,n⟩ true [[46]]=false
 beg:∀ a n,Bu ⟨7,a,s,n⟩ true=false
 lex:∀ r,Cx (s++32::r)=(Cx r).map ((7,s,0):: ·)
theorem Sg.stop{s:LB}{l:Nat}(h:Sg s l)(a:Nat)(n:Int):Lx ⟨7,a,s,n⟩ (l+1):=⟨h.dot a n,h.beg a n,fun L hL h7=>h.no a n L h7 (by omega)⟩
theorem Gi{s:LB}{l:Nat}(h:∀ L,L<7→L≠l→(Hy L).contains s=false)(a:Nat)(n:Int)(L:Nat)(h7:L<7)(hn:L≠l):isB ⟨7,a,s,n⟩ true (Hy L)=false:=by
 show(true&&true&&(Hy L).contains s)=false;rw[h L h7 hn];rfl
theorem E9{s:LB}(hs:∃ c r,s=c::r∧Cv c=false)(ht:∀ r,tok (s++32::r)= .ok (7,s,0,s.length))(r:LB):Cx (s++32::r)=(Cx r).map ((7,s,0):: ·):=by
 have h:=ht r;obtain⟨c,q,rfl,hc⟩:=hs;rw[Lp'] at h ⊢;rw[Jp hc h,← Lp',List.drop_left,Dr r (by rfl)]
theorem Sr:∀ i,i<11→Sg (sgs.getD i []) (lvs.getD i 0):=by
 have f7:∀ (s:LB) (l:Nat),(∀ L ∈ [0,1,2,3,4,5,6],L≠l→(Hy L).contains s=false)→∀ L,L<7→L≠l→(Hy L).contains s=false:=fun s l h L hL hn=>by
  match L,hL,hn with
  | 0,_,hn=>exact h 0 (by simp) hn
  | 1,_,hn=>exact h 1 (by simp) hn
  | 2,_,hn=>exact h 2 (by simp) hn
  | 3,_,hn=>exact h 3 (by simp) hn
  | 4,_,hn=>exact h 4 (by simp) hn
  | 5,_,hn=>exact h 5 (by simp) hn
  | 6,_,hn=>exact h 6 (by simp) hn
  | _+7,h,_=>omega
 intro i hi
 match i,hi with
 | 0,_=>exact⟨by decide,fun _ _=>by rfl,Gi (f7 [59] 0 (by decide)),fun _ _=>by rfl,fun _ _=>by rfl,E9 ⟨59,[],rfl,by rfl⟩ (fun _=>by rfl)⟩
 | 1,_=>exact⟨by decide,fun _ _=>by rfl,Gi (f7 [58,61] 1 (by decide)),fun _ _=>by rfl,fun _ _=>by rfl,E9 ⟨58,[61],rfl,by rfl⟩ (fun _=>by rfl)⟩
 | 2,_=>exact⟨by decide,fun _ _=>by rfl,Gi (f7 [124,124] 2 (by decide)),fun _ _=>by rfl,fun _ _=>by rfl,E9 ⟨124,[124],rfl,by rfl⟩ (fun _=>by rfl)⟩
 | 3,_=>exact⟨by decide,fun _ _=>by rfl,Gi (f7 [38,38] 3 (by decide)),fun _ _=>by rfl,fun _ _=>by rfl,E9 ⟨38,[38],rfl,by rfl⟩ (fun _=>by rfl)⟩
 | 4,_=>exact⟨by decide,fun _ _=>by rfl,Gi (f7 [61] 4 (by decide)),fun _ _=>by rfl,fun _ _=>by rfl,E9 ⟨61,[],rfl,by rfl⟩ (fun _=>by rfl)⟩
 | 5,_=>exact⟨by decide,fun _ _=>by rfl,Gi (f7 [60] 4 (by decide)),fun _ _=>by rfl,fun _ _=>by rfl,E9 ⟨60,[],rfl,by rfl⟩ (fun _=>by rfl)⟩
 | 6,_=>exact⟨by decide,fun _ _=>by rfl,Gi (f7 [43] 5 (by decide)),fun _ _=>by rfl,fun _ _=>by rfl,E9 ⟨43,[],rfl,by rfl⟩ (fun _=>by rfl)⟩
 | 7,_=>exact⟨by decide,fun _ _=>by rfl,Gi (f7 [45] 5 (by decide)),fun _ _=>by rfl,fun _ _=>by rfl,E9 ⟨45,[],rfl,by rfl⟩ (fun _=>by rfl)⟩
 | 8,_=>exact⟨by decide,fun _ _=>by rfl,Gi (f7 [42] 6 (by decide)),fun _ _=>by rfl,fun _ _=>by rfl,E9 ⟨42,[],rfl,by rfl⟩ (fun _=>by rfl)⟩
 | 9,_=>exact⟨by decide,fun _ _=>by rfl,Gi (f7 [47] 6 (by decide)),fun _ _=>by rfl,fun _ _=>by rfl,E9 ⟨47,[],rfl,by rfl⟩ (fun _=>by rfl)⟩
 | 10,_=>exact⟨by decide,fun _ _=>by rfl,Gi (f7 [37] 6 (by decide)),fun _ _=>by rfl,fun _ _=>by rfl,E9 ⟨37,[],rfl,by rfl⟩ (fun _=>by rfl)⟩
 | _+11,h=>omega
def IsX(La:List Sp)(x:Ah):Prop:=∃ ts,E1 ts∧ts.map C7=La++[(0,[],0)]∧Run ts (body .seq) ⟨0,true⟩ (.e x) ⟨La.length,true⟩
theorem Fx{a:LB}{x:Ah}{p:Int}(h:PR a x 0 p):∃ La,Cx a=some (La++[(0,[],0)])∧IsX La x:=by
 cases h with
 | lexErr h=>rcases Ki h with⟨_,h,_⟩| ⟨_,_,h,_⟩<;> omega
 | @ok ts _ st' t hl hr ht hok hend hm hd =>
  obtain⟨La,h1,h2,h3⟩:=Sb hl
  have hi:st'.i=La.length:=by
   have h4:=(List.getElem?_eq_some_iff.1 ht).1;rcases Nat.lt_or_ge (st'.i+1) ts.length with h|h
   ·exact absurd hend (((Dm hl).2 _ _ ht).1.2 h)
   ·omega
  obtain⟨i,ok⟩:=st';simp only at hi hok;subst hi hok;exact⟨La,h2,ts,E4 (Dm hl),h1,hr⟩
def SA(La:List Sp):List Sp:=(7,[40],0)::(La++[(7,[41],0)])
theorem C9(La:List Sp):(SA La).length=La.length+2:=by simp[SA]
theorem Et{a:LB}{La:List Sp}(h:Cx a=some (La++[(0,[],0)]))(r:LB):Cx (40::(a++41::r))=(Cx r).map fun x=>SA La++x:=by
 rw[Id,N3 h r]
 cases Cx r with
 | none=>rfl
 | some x=>simp[SA]
theorem Fe{us:List Tok}{P R:List Sp}{k:Int}{tx:LB}{n:Int}(h:us.map C7=P++(k,tx,n)::R){d:Nat}(hd:d=P.length):∃ a,us[d]?=some ⟨k,a,tx,n⟩:=
 S5 h (by subst hd;simp)
theorem blk{us:List Tok}{P La R:List Sp}{x:Ah}(hE2:E1 us)(h:us.map C7=P++(SA La++R))(hX:IsX La x){d:Nat}(hd:d=P.length):∃ y,A8 x y∧I7 us d∧Run us (body .atom) ⟨d,true⟩ (.e y) ⟨d+La.length+2,true⟩:=by
 obtain⟨ts,hE,hL,hr⟩:=hX;have hn:ts.length=La.length+1:=by simpa using congrArg List.length hL
 obtain⟨a0,h0⟩:=Fe (P:=P) (k:=7) (tx:=[40]) (n:=0) (R:=La++(7,[41],0)::R) (by rw[h];simp[SA]) hd;obtain⟨a1,h1⟩:=Fe (us:=us) (P:=P++(7,[40],0)::La) (k:=7) (tx:=[41]) (n:=0) (R:=R) (by rw[h];simp[SA]) (d:=La.length+(d+1)) (by simp;omega)
 obtain⟨y,hy,hry⟩:=Rc hE hE2 hn h0 (fun j q a tx n' hj htj=>S5 h (by
  have:=S3 hL htj
  rw[List.getElem?_append_left hj] at this
  subst hd
  rw[List.getElem?_append_right (by omega),show j+(P.length+1)-P.length=j+1 by omega]
  unfold SA
  rw[Lp',List.getElem?_cons_succ,Ls',List.getElem?_append_left hj]
  exact this)) h1 hr
 rw[show La.length+d+2=d+La.length+2 by omega] at hry;exact⟨y,hy,⟨_,_,h0⟩,hry⟩
section
variable {us:List Tok} {La Lb Lc:List Sp} {xa xb xc:Ah} {s1 s2:LB} {l1 l2:Nat}
def D6:Sp:=(0,[],0)
def sgS(s:LB):Sp:=(7,s,0)
def IsL(l1 l2:Nat)(s1 s2:LB)(xa xb xc T:Ah):Prop:=∃ a b ya yb yc,A8 xa ya∧A8 xb yb∧A8 xc yc∧T=mkB l2 s2 b (mkB l1 s1 a ya yb) yc
def IsR(l1 l2:Nat)(s1 s2:LB)(xa xb xc T:Ah):Prop:=∃ a b ya yb yc,A8 xa ya∧A8 xb yb∧A8 xc yc∧T=mkB l1 s1 a ya (mkB l2 s2 b yb yc)
def Ls(us:List Tok)(P:Ah→Prop):Prop:=∃ T j u,P T∧Run us (body .seq) ⟨0,true⟩ (.e T) ⟨j,true⟩∧us[j]?=some u∧u.k=0
theorem Gl{l:Nat}(h:l≤6):rOf l≤7∧l≤rOf l∧rOf l≤l+1:=by unfold rOf;split <;> omega
theorem Fy(h:us.map C7=SA La++sgS s1::(SA Lb++sgS s2::(SA Lc++[D6])))(hE:E1 us)(ha:IsX La xa)(hb:IsX Lb xb)(hc:IsX Lc xc):
  ∃ ya yb yc a1 a2 a3,A8 xa ya∧A8 xb yb∧A8 xc yc∧I7 us 0∧I7 us (La.length+3)∧I7 us (La.length+Lb.length+6)∧
   us[La.length+2]?=some ⟨7,a1,s1,0⟩∧us[La.length+Lb.length+5]?=some ⟨7,a2,s2,0⟩∧us[La.length+Lb.length+Lc.length+8]?=some ⟨0,a3,[],0⟩∧
   Run us (body .atom) ⟨0,true⟩ (.e ya) ⟨La.length+2,true⟩∧Run us (body .atom) ⟨La.length+3,true⟩ (.e yb) ⟨La.length+Lb.length+5,true⟩∧Run us (body .atom) ⟨La.length+Lb.length+6,true⟩ (.e yc) ⟨La.length+Lb.length+Lc.length+8,true⟩:=by
 obtain⟨ya,hya,oa,ra⟩:=blk (P:=[]) hE (by simpa using h) ha (d:=0) rfl;obtain⟨yb,hyb,ob,rb⟩:=blk (P:=SA La++[sgS s1]) (R:=sgS s2::(SA Lc++[D6])) hE (by rw[h];simp) hb (d:=La.length+3) (by simp[C9]);obtain⟨yc,hyc,oc,rc⟩:=blk (P:=SA La++sgS s1::(SA Lb++[sgS s2])) (R:=[D6]) hE (by rw[h];simp) hc (d:=La.length+Lb.length+6) (by simp[C9];omega);obtain⟨a1,h1⟩:=Fe (us:=us) (P:=SA La) (k:=7) (tx:=s1) (n:=0) h (d:=La.length+2) (by simp[C9]);obtain⟨a2,h2⟩:=Fe (us:=us) (P:=SA La++sgS s1::SA Lb) (k:=7) (tx:=s2) (n:=0) (R:=SA Lc++[D6]) (by rw[h];simp[sgS]) (d:=La.length+Lb.length+5) (by simp[C9];omega);obtain⟨a3,h3⟩:=Fe (us:=us) (P:=SA La++sgS s1::(SA Lb++sgS s2::SA Lc)) (k:=0) (tx:=[]) (n:=0) (R:=[]) (by rw[h];simp[D6]) (d:=La.length+Lb.length+Lc.length+8) (by simp[C9];omega);rw[Nat.zero_add] at ra;rw[show La.length+3+Lb.length+2=La.length+Lb.length+5 by omega] at rb;rw[show La.length+Lb.length+6+Lc.length+2=La.length+Lb.length+Lc.length+8 by omega] at rc;exact⟨ya,yb,yc,a1,a2,a3,hya,hyb,hyc,oa,ob,oc,h1,h2,h3,ra,rb,rc⟩
theorem Si(g1:Sg s1 l1)(g2:Sg s2 l2)(h:us.map C7=SA La++sgS s1::(SA Lb++sgS s2::(SA Lc++[D6])))(hE:E1 us)(ha:IsX La xa)(hb:IsX Lb xb)(hc:IsX Lc xc)(hl:l2<l1):Ls us (IsL l1 l2 s1 s2 xa xb xc):=by
 obtain⟨ya,yb,yc,a1,a2,a3,hya,hyb,hyc,oa,ob,oc,h1,h2,h3,ra,rb,rc⟩:=Fy h hE ha hb hc;have q1:=g1.le;have q2:=g2.le;have r1:=Gl q1;have r2:=Gl q2;have t1:=Cl oa h1 (g1.stop a1 0) (l1+1) (Nr' _) (by omega) ra;have t2:=Cl ob h2 (g2.stop a2 0) (rOf l1) (by omega) (by omega) rb;have t3:=Dy h1 h2 (L:=l1) (by omega) (g1.yes a1 0) (fun _=>g2.no a2 0 _ (by omega) (by omega)) (fun _=>oa) t1 t2;have t4:=Ey oa h2 (g2.stop a2 0) (l2+1) l1 (Nr' _) (by omega) (by omega) t3;have t5:=Cl oc h3 (Dh a3 [] 0) (rOf l2) (Nat.zero_le _) (by omega) rc;have t6:=Dy h2 h3 (L:=l2) (by omega) (g2.yes a2 0) (fun _=>Ck _ _ _ _ _) (fun _=>oa) t4 t5;exact⟨_,_,_,⟨_,_,_,_,_,hya,hyb,hyc,rfl⟩,Ey oa h3 (Dh a3 [] 0) 0 l2 (Nat.zero_le _) (Nat.zero_le _) (by omega) t6,h3,rfl⟩
theorem N9(g1:Sg s1 l1)(g2:Sg s2 l2)(h:us.map C7=SA La++sgS s1::(SA Lb++sgS s2::(SA Lc++[D6])))(hE:E1 us)(ha:IsX La xa)(hb:IsX Lb xb)(hc:IsX Lc xc)(hl:l1=l2)(h4:4<l1):Ls us (IsL l1 l2 s1 s2 xa xb xc):=by
 obtain⟨ya,yb,yc,a1,a2,a3,hya,hyb,hyc,oa,ob,oc,h1,h2,h3,ra,rb,rc⟩:=Fy h hE ha hb hc;subst hl;have q1:=g1.le;have t1:=Cl oa h1 (g1.stop a1 0) (l1+1) (Nr' _) (by omega) ra;have t2:=Cl ob h2 (g2.stop a2 0) (l1+1) (Nr' _) (by omega) rb;have t3:=Cl oc h3 (Dh a3 [] 0) (l1+1) (Nat.zero_le _) (by omega) rc;have t4:=Py h1 h2 h3 (L:=l1) (by omega) (g1.yes a1 0) (g2.yes a2 0) (Ck _ _ _ _ _) t1 t2 t3;exact⟨_,_,_,⟨_,_,_,_,_,hya,hyb,hyc,rfl⟩,Ey oa h3 (Dh a3 [] 0) 0 l1 (Nat.zero_le _) (Nat.zero_le _) (by omega) t4,h3,rfl⟩
theorem Mo(g1:Sg s1 l1)(g2:Sg s2 l2)(h:us.map C7=SA La++sgS s1::(SA Lb++sgS s2::(SA Lc++[D6])))(hE:E1 us)(ha:IsX La xa)(hb:IsX Lb xb)(hc:IsX Lc xc)(hl:l1<l2∨(l1=l2∧l1≤3)):Ls us (IsR l1 l2 s1 s2 xa xb xc):=by
 obtain⟨ya,yb,yc,a1,a2,a3,hya,hyb,hyc,oa,ob,oc,h1,h2,h3,ra,rb,rc⟩:=Fy h hE ha hb hc;have q1:=g1.le;have q2:=g2.le;have r1:=Gl q1;have r2:=Gl q2;have r3:rOf l1≤l2:=by unfold rOf;split <;> omega
 have t1:=Cl oa h1 (g1.stop a1 0) (l1+1) (Nr' _) (by omega) ra;have t2:=Cl ob h2 (g2.stop a2 0) (l2+1) (Nr' _) (by omega) rb;have t3:=Cl oc h3 (Dh a3 [] 0) (rOf l2) (Nat.zero_le _) (by omega) rc;have t4:=Dy h2 h3 (L:=l2) (by omega) (g2.yes a2 0) (fun _=>Ck _ _ _ _ _) (fun _=>ob) t2 t3;have t5:=Ey ob h3 (Dh a3 [] 0) (rOf l1) l2 (Nat.zero_le _) r3 (by omega) t4;have t6:=Dy h1 h3 (L:=l1) (by omega) (g1.yes a1 0) (fun _=>Ck _ _ _ _ _) (fun _=>oa) t1 t5;exact⟨_,_,_,⟨_,_,_,_,_,hya,hyb,hyc,rfl⟩,Ey oa h3 (Dh a3 [] 0) 0 l1 (Nat.zero_le _) (Nat.zero_le _) (by omega) t6,h3,rfl⟩
theorem P6(g1:Sg s1 4)(g2:Sg s2 4)(h:us.map C7=SA La++sgS s1::(SA Lb++sgS s2::(SA Lc++[D6])))(hE:E1 us)(ha:IsX La xa)(hb:IsX Lb xb)(hc:IsX Lc xc):
  ∃ T j u,Run us (body .seq) ⟨0,true⟩ (.e T) ⟨j,true⟩∧us[j]?=some u∧u.k≠0:=by
 obtain⟨ya,yb,yc,a1,a2,a3,hya,hyb,hyc,oa,ob,oc,h1,h2,h3,ra,rb,rc⟩:=Fy h hE ha hb hc;have t1:=Cl oa h1 (g1.stop a1 0) 5 (by decide) (by decide) ra;have t2:=Cl ob h2 (g2.stop a2 0) 5 (by decide) (by decide) rb;have t3:=Dy h1 h2 (L:=4) (by decide) (g1.yes a1 0) (fun h=>absurd h (by decide)) (fun h=>absurd h (by decide)) t1 t2;have t4:=J6 oa h2 (L:=3) (by decide) (g2.no a2 0 3 (by decide) (by decide)) t3;have t5:=J6 oa h2 (L:=2) (by decide) (g2.no a2 0 2 (by decide) (by decide)) t4;have t6:=J6 oa h2 (L:=1) (by decide) (g2.no a2 0 1 (by decide) (by decide)) t5;have t7:=J6 oa h2 (L:=0) (by decide) (g2.no a2 0 0 (by decide) (by decide)) t6;exact⟨_,_,_,t7,h2,by simp⟩
theorem Sa(g1:Sg s1 l1)(g2:Sg s2 l2)(h:us.map C7=(7,[40],0)::(SA La++sgS s1::(SA Lb++(7,[41],0)::sgS s2::(SA Lc++[D6]))))(hE:E1 us)(ha:IsX La xa)(hb:IsX Lb xb)(hc:IsX Lc xc):Ls us (IsL l1 l2 s1 s2 xa xb xc):=by
 obtain⟨ya,hya,oa,ra⟩:=blk (P:=[(7,[40],0)]) (R:=sgS s1::(SA Lb++(7,[41],0)::sgS s2::(SA Lc++[D6]))) hE (by rw[h];simp) ha (d:=1) rfl;obtain⟨yb,hyb,ob,rb⟩:=blk (P:=(7,[40],0)::(SA La++[sgS s1])) (R:=(7,[41],0)::sgS s2::(SA Lc++[D6])) hE (by rw[h];simp) hb (d:=La.length+4) (by simp[C9]);obtain⟨yc,hyc,oc,rc⟩:=blk (P:=(7,[40],0)::(SA La++sgS s1::(SA Lb++[(7,[41],0),sgS s2]))) (R:=[D6]) hE (by rw[h];simp) hc (d:=La.length+Lb.length+8) (by simp[C9];omega);obtain⟨a0,h0⟩:=Fe (us:=us) (P:=[]) (k:=7) (tx:=[40]) (n:=0) h (d:=0) rfl;obtain⟨a1,h1⟩:=Fe (us:=us) (P:=(7,[40],0)::SA La) (k:=7) (tx:=s1) (n:=0) h (d:=La.length+3) (by simp[C9]);obtain⟨a4,h4⟩:=Fe (us:=us) (P:=(7,[40],0)::(SA La++sgS s1::SA Lb)) (k:=7) (tx:=[41]) (n:=0) (R:=sgS s2::(SA Lc++[D6])) (by rw[h];simp) (d:=La.length+Lb.length+6) (by simp[C9];omega);obtain⟨a2,h2⟩:=Fe (us:=us) (P:=(7,[40],0)::(SA La++sgS s1::(SA Lb++[(7,[41],0)]))) (k:=7) (tx:=s2) (n:=0) (R:=SA Lc++[D6]) (by rw[h];simp[sgS]) (d:=La.length+Lb.length+7) (by simp[C9];omega);obtain⟨a3,h3⟩:=Fe (us:=us) (P:=(7,[40],0)::(SA La++sgS s1::(SA Lb++(7,[41],0)::sgS s2::SA Lc))) (k:=0) (tx:=[]) (n:=0) (R:=[]) (by rw[h];simp[D6]) (d:=La.length+Lb.length+Lc.length+10) (by simp[C9];omega);rw[show 1+La.length+2=La.length+3 by omega] at ra;rw[show La.length+4+Lb.length+2=La.length+Lb.length+6 by omega] at rb;rw[show La.length+Lb.length+8+Lc.length+2=La.length+Lb.length+Lc.length+10 by omega] at rc;have q1:=g1.le;have q2:=g2.le;have r1:=Gl q1;have r2:=Gl q2;have t1:=Cl oa h1 (g1.stop a1 0) (l1+1) (Nr' _) (by omega) ra;have t2:=Cl ob h4 (D8 a4 0) (rOf l1) (Nat.zero_le _) (by omega) rb;have t3:=Dy h1 h4 (L:=l1) (by omega) (g1.yes a1 0) (fun _=>(D8 a4 0).lv _ (Nat.zero_le _) (by omega)) (fun _=>oa) t1 t2;have t4:=Ey oa h4 (D8 a4 0) 0 l1 (Nat.zero_le _) (Nat.zero_le _) (by omega) t3;obtain⟨a5,m5,h5⟩:=oa;have t5:=Ge h0 h5 (by rfl) t4 h4;have t6:=Cl ⟨_,_,h0⟩ h2 (g2.stop a2 0) (l2+1) (Nr' _) (by omega) t5;have t7:=Cl oc h3 (Dh a3 [] 0) (rOf l2) (Nat.zero_le _) (by omega) rc;have t8:=Dy h2 h3 (L:=l2) (by omega) (g2.yes a2 0) (fun _=>Ck _ _ _ _ _) (fun _=>⟨_,_,h0⟩) t6 t7;exact⟨_,_,_,⟨_,_,_,_,_,hya,hyb,hyc,rfl⟩,Ey ⟨_,_,h0⟩ h3 (Dh a3 [] 0) 0 l2 (Nat.zero_le _) (Nat.zero_le _) (by omega) t8,h3,rfl⟩
theorem Qh(g1:Sg s1 l1)(g2:Sg s2 l2)(h:us.map C7=SA La++sgS s1::(7,[40],0)::(SA Lb++sgS s2::(SA Lc++[(7,[41],0),D6])))(hE:E1 us)(ha:IsX La xa)(hb:IsX Lb xb)(hc:IsX Lc xc):Ls us (IsR l1 l2 s1 s2 xa xb xc):=by
 obtain⟨ya,hya,oa,ra⟩:=blk (P:=[]) hE (by simpa using h) ha (d:=0) rfl;obtain⟨yb,hyb,ob,rb⟩:=blk (P:=SA La++[sgS s1,(7,[40],0)]) (R:=sgS s2::(SA Lc++[(7,[41],0),D6])) hE (by rw[h];simp) hb (d:=La.length+4) (by simp[C9]);obtain⟨yc,hyc,oc,rc⟩:=blk (P:=SA La++sgS s1::(7,[40],0)::(SA Lb++[sgS s2])) (R:=[(7,[41],0),D6]) hE (by rw[h];simp) hc (d:=La.length+Lb.length+7) (by simp[C9];omega);obtain⟨a1,h1⟩:=Fe (us:=us) (P:=SA La) (k:=7) (tx:=s1) (n:=0) h (d:=La.length+2) (by simp[C9]);obtain⟨a0,h0⟩:=Fe (us:=us) (P:=SA La++[sgS s1]) (k:=7) (tx:=[40]) (n:=0) (R:=SA Lb++sgS s2::(SA Lc++[(7,[41],0),D6])) (by rw[h];simp) (d:=La.length+2+1) (by simp[C9]);obtain⟨a2,h2⟩:=Fe (us:=us) (P:=SA La++sgS s1::(7,[40],0)::SA Lb) (k:=7) (tx:=s2) (n:=0) (R:=SA Lc++[(7,[41],0),D6]) (by rw[h];simp[sgS]) (d:=La.length+Lb.length+6) (by simp[C9];omega);obtain⟨a4,h4⟩:=Fe (us:=us) (P:=SA La++sgS s1::(7,[40],0)::(SA Lb++sgS s2::SA Lc)) (k:=7) (tx:=[41]) (n:=0) (R:=[D6]) (by rw[h];simp) (d:=La.length+Lb.length+Lc.length+9) (by simp[C9];omega);obtain⟨a3,h3⟩:=Fe (us:=us) (P:=SA La++sgS s1::(7,[40],0)::(SA Lb++sgS s2::(SA Lc++[(7,[41],0)]))) (k:=0) (tx:=[]) (n:=0) (R:=[]) (by rw[h];simp[D6]) (d:=La.length+Lb.length+Lc.length+9+1) (by simp[C9];omega);rw[Nat.zero_add] at ra;rw[show La.length+4+Lb.length+2=La.length+Lb.length+6 by omega] at rb;rw[show La.length+Lb.length+7+Lc.length+2=La.length+Lb.length+Lc.length+9 by omega] at rc;have q1:=g1.le;have q2:=g2.le;have r1:=Gl q1;have r2:=Gl q2;have t1:=Cl oa h1 (g1.stop a1 0) (l1+1) (Nr' _) (by omega) ra;have t2:=Cl ob h2 (g2.stop a2 0) (l2+1) (Nr' _) (by omega) rb;have t3:=Cl oc h4 (D8 a4 0) (rOf l2) (Nat.zero_le _) (by omega) rc;have t4:=Dy h2 h4 (L:=l2) (by omega) (g2.yes a2 0) (fun _=>(D8 a4 0).lv _ (Nat.zero_le _) (by omega)) (fun _=>ob) t2 t3;have t5:=Ey ob h4 (D8 a4 0) 0 l2 (Nat.zero_le _) (Nat.zero_le _) (by omega) t4;obtain⟨a5,m5,h5⟩:=ob;have t6:=Ge h0 h5 (by rfl) t5 h4;have t7:=Cl ⟨_,_,h0⟩ h3 (Dh a3 [] 0) (rOf l1) (Nat.zero_le _) (by omega) t6;have t8:=Dy h1 h3 (L:=l1) (by omega) (g1.yes a1 0) (fun _=>Ck _ _ _ _ _) (fun _=>oa) t1 t7;exact⟨_,_,_,⟨_,_,_,_,_,hya,hyb,hyc,rfl⟩,Ey oa h3 (Dh a3 [] 0) 0 l1 (Nat.zero_le _) (Nat.zero_le _) (by omega) t8,h3,rfl⟩
end
theorem Db.symm{x y:Av}(h:Db x y):Db y x:=by
 induction h with
 | mk hl h ih=>exact .mk hl.symm (fun i x y hx hy=>ih i y x hy hx)
theorem A8.symm{x y:Ah}(h:A8 x y):A8 y x:=by
 induction h with
 | mk hl h hl2 hp hx ih ih2=>exact .mk hl.symm (fun i x y hx hy=>ih i y x hy hx) hl2.symm (fun i p p' x y h1 h2=>(hp i p' p y x h2 h1).symm) (fun i p p' x y h1 h2=>ih2 i p' p y x h2 h1)
theorem mid{α:Type}{l m:List α}(h:l.length=m.length){i:Nat}{x:α}(hx:l[i]?=some x):∃ y,m[i]?=some y :=
 ⟨m[i]'(by have:=(List.getElem?_eq_some_iff.1 hx).1;omega),Lg' _⟩
theorem Db.trans{x y:Av}(h:Db x y):∀ {z:Av},Db y z→Db x z:=by
 induction h with
 | mk hl h ih =>
  intro z hz
  cases hz with
  | mk hl' h'=>exact .mk (hl.trans hl') (fun i x z hx hz=>by obtain⟨y,hy⟩:=mid hl hx;exact ih i x y hx hy (h' i y z hy hz))
theorem A8.trans{x y:Ah}(h:A8 x y):∀ {z:Ah},A8 y z→A8 x z:=by
 induction h with
 | mk hl h hl2 hp hx ih ih2 =>
  intro z hz
  cases hz with
  | mk hl' h' hl2' hp' hx' =>
   exact .mk (hl.trans hl') (fun i x z hx hz=>by obtain⟨y,hy⟩:=mid hl hx;exact ih i x y hx hy (h' i y z hy hz)) (hl2.trans hl2')
    (fun i p q x z h1 h3=>by obtain⟨⟨r,y⟩,h2⟩:=mid hl2 h1;exact(hp i p r x y h1 h2).trans (hp' i r q y z h2 h3))
    (fun i p q x z h1 h3=>by obtain⟨⟨r,y⟩,h2⟩:=mid hl2 h1;exact ih2 i p r x y h1 h2 (hx' i r q y z h2 h3))
theorem Ry{l1 l2:Nat}{s1 s2:LB}{xa xb xc T U:Ah}(h:IsL l1 l2 s1 s2 xa xb xc T)(h2:IsL l1 l2 s1 s2 xa xb xc U):A8 T U:=by
 obtain⟨a,b,ya,yb,yc,h1,h3,h4,rfl⟩:=h;obtain⟨a',b',za,zb,zc,k1,k3,k4,rfl⟩:=h2;exact Hr _ _ _ _ (Hr _ _ _ _ (h1.symm.trans k1) (h3.symm.trans k3)) (h4.symm.trans k4)
theorem Rz{l1 l2:Nat}{s1 s2:LB}{xa xb xc T U:Ah}(h:IsR l1 l2 s1 s2 xa xb xc T)(h2:IsR l1 l2 s1 s2 xa xb xc U):A8 T U:=by
 obtain⟨a,b,ya,yb,yc,h1,h3,h4,rfl⟩:=h;obtain⟨a',b',za,zb,zc,k1,k3,k4,rfl⟩:=h2;exact Hr _ _ _ _ (h1.symm.trans k1) (Hr _ _ _ _ (h3.symm.trans k3) (h4.symm.trans k4))
theorem Kg{s s':LB}{us vs:List Tok}{P:Ah→Prop}(hP:∀ T U,P T→P U→A8 T U)(hl:Bw s = .ok us)(hl2:Bw s' = .ok vs)(he:Ls us P)(he2:Ls vs P){x y:Ah}{d h p q:Int}(hx:PR s x d p)(hy:PR s' y h q):
  h=d∧(d=0∨d=3∨d=22)∧A8 x y:=by
 obtain⟨T,j,u,hT,hr,hu,hk⟩:=he;obtain⟨U,j',u',hU,hr',hu',hk'⟩:=he2;have hS:=hP T U hT hU;have h1:=Mp hl hr hu hk hx;have h2:=Mp hl2 hr' hu' hk' hy;rw[hS.sz,← hS.deep 200] at h2
 rcases h1 with⟨rfl,rfl,m1⟩| ⟨rfl,rfl,m1,e1⟩| ⟨rfl,rfl,m1,e1⟩
 ·rcases h2 with⟨rfl,rfl,m2⟩| ⟨_,_,m2,_⟩| ⟨_,_,m2,_⟩
  ·exact⟨rfl,.inr (.inl rfl),Kp⟩
  ·omega
  ·omega
 ·rcases h2 with⟨_,_,m2⟩| ⟨rfl,rfl,m2,e2⟩| ⟨_,_,m2,e2⟩
  ·omega
  ·exact⟨rfl,.inr (.inr rfl),Kp⟩
  ·exact absurd e2 e1
 ·rcases h2 with⟨_,_,m2⟩| ⟨_,_,m2,e2⟩| ⟨rfl,rfl,m2,e2⟩
  ·omega
  ·exact absurd ((hS.deep 200).1 e1) e2
  ·exact⟨rfl,.inl rfl,hS⟩
def inB(a r:LB):LB:=40::(a++41::r)
def Fd(a b c s1 s2:LB):LB:=inB a (32::(s1++32::inB b (32::(s2++32::inB c []))))
def Fh(a b c s1 s2:LB):LB:=40::inB a (32::(s1++32::inB b (41::32::(s2++32::inB c []))))
def Gm(a b c s1 s2:LB):LB:=inB a (32::(s1++32::40::inB b (32::(s2++32::inB c [41]))))
theorem Ia(a b c s1 s2:LB):(Fd a b c s1 s2).length+2=(Fh a b c s1 s2).length∧(Gm a b c s1 s2).length=(Fh a b c s1 s2).length:=by
 simp[Fd,Fh,Gm,inB];omega
theorem Jo:Cx []=some [D6]:=by rfl
theorem Kj(r:LB):Cx (41::r)=(Cx r).map ((7,[41],0):: ·):=Jp (by rfl) (tok41 r)
section
variable {a b c:LB} {La Lb Lc:List Sp} {s1 s2:LB} {l1 l2:Nat}
theorem Ij(g1:Sg s1 l1)(g2:Sg s2 l2)(ha:Cx a=some (La++[(0,[],0)]))(hb:Cx b=some (Lb++[(0,[],0)]))(hc:Cx c=some (Lc++[(0,[],0)])):Cx (Fd a b c s1 s2)=some (SA La++sgS s1::(SA Lb++sgS s2::(SA Lc++[D6]))):=by
 unfold Fd inB;rw[Et ha,Dr _ (by rfl),g1.lex,Et hb,Dr _ (by rfl),g2.lex,Et hc,Jo];rfl
theorem R9(g1:Sg s1 l1)(g2:Sg s2 l2)(ha:Cx a=some (La++[(0,[],0)]))(hb:Cx b=some (Lb++[(0,[],0)]))(hc:Cx c=some (Lc++[(0,[],0)])):Cx (Fh a b c s1 s2)=some ((7,[40],0)::(SA La++sgS s1::(SA Lb++(7,[41],0)::sgS s2::(SA Lc++[D6])))):=by
 unfold Fh inB;rw[Id,Et ha,Dr _ (by rfl),g1.lex,Et hb,Kj,Dr _ (by rfl),g2.lex,Et hc,Jo];rfl
theorem Qg(g1:Sg s1 l1)(g2:Sg s2 l2)(ha:Cx a=some (La++[(0,[],0)]))(hb:Cx b=some (Lb++[(0,[],0)]))(hc:Cx c=some (Lc++[(0,[],0)])):Cx (Gm a b c s1 s2)=some (SA La++sgS s1::(7,[40],0)::(SA Lb++sgS s2::(SA Lc++[(7,[41],0),D6]))):=by
 unfold Gm inB;rw[Et ha,Dr _ (by rfl),g1.lex,Id,Et hb,Dr _ (by rfl),g2.lex,Et hc,Kj,Jo];rfl
end
theorem Pk{a b c s1 s2:LB}{xa xb xc x:Ah}{pa pb pc d p:Int}(g1:Sg s1 4)(g2:Sg s2 4)(ha:PR a xa 0 pa)(hb:PR b xb 0 pb)(hc:PR c xc 0 pc)(hlen:(Fh a b c s1 s2).length≤4096)(h:PR (Fd a b c s1 s2) x d p):d=21:=by
 obtain⟨La,la,ia⟩:=Fx ha;obtain⟨Lb,lb,ib⟩:=Fx hb;obtain⟨Lc,lc,ic⟩:=Fx hc;have hn:=Ia a b c s1 s2;obtain⟨us,hu,hst⟩:=Ho (Ij g1 g2 la lb lc) (by omega);obtain⟨T,j,u,hr,hju,hk⟩:=P6 g1 g2 hst (E4 (Dm hu)) ia ib ic
 have key:∀ {ts':List Tok} {x':Ah} {st':St} {t':Tok},Bw (Fd a b c s1 s2)= .ok ts'→Run ts' (body .seq) ⟨0,true⟩ (.e x') st'→ts'[st'.i]?=some t'→t'.k≠0:=by
  intro ts' x' st' t' hl' hr' ht';rw[hu] at hl';cases hl';obtain⟨e1,e2⟩:=hr.det hr';cases e2;rw[hju] at ht';cases ht';exact hk
 cases h with
 | lexErr h=>rw[hu] at h;cases h
 | syn=>rfl
 | many hl' hr' ht' _ hend=>exact(key hl' hr' ht' hend).elim
 | deep hl' hr' ht' _ hend=>exact(key hl' hr' ht' hend).elim
 | ok hl' hr' ht' _ hend=>exact(key hl' hr' ht' hend).elim
theorem Ha{a b c s1 s2:LB}{l1 l2:Nat}{xa xb xc x y:Ah}{pa pb pc d p h q:Int}(g1:Sg s1 l1)(g2:Sg s2 l2)(ha:PR a xa 0 pa)(hb:PR b xb 0 pb)(hc:PR c xc 0 pc)(hlen:(Fh a b c s1 s2).length≤4096)(hl:l2<l1∨(l1=l2∧4<l1))(hx:PR (Fd a b c s1 s2) x d p)(hy:PR (Fh a b c s1 s2) y h q):
  h=d∧(d=0∨d=3∨d=22)∧A8 x y:=by
 obtain⟨La,la,ia⟩:=Fx ha;obtain⟨Lb,lb,ib⟩:=Fx hb;obtain⟨Lc,lc,ic⟩:=Fx hc;have hn:=Ia a b c s1 s2;obtain⟨us,hu,hst⟩:=Ho (Ij g1 g2 la lb lc) (by omega);obtain⟨vs,hv,hst2⟩:=Ho (R9 g1 g2 la lb lc) (by omega);have e1:Ls us (IsL l1 l2 s1 s2 xa xb xc):=hl.elim (fun h=>Si g1 g2 hst (E4 (Dm hu)) ia ib ic h) (fun h=>N9 g1 g2 hst (E4 (Dm hu)) ia ib ic h.1 h.2);exact Kg (fun T U=>Ry) hu hv e1 (Sa g1 g2 hst2 (E4 (Dm hv)) ia ib ic) hx hy
theorem Gf{a b c s1 s2:LB}{l1 l2:Nat}{xa xb xc x y:Ah}{pa pb pc d p h q:Int}(g1:Sg s1 l1)(g2:Sg s2 l2)(ha:PR a xa 0 pa)(hb:PR b xb 0 pb)(hc:PR c xc 0 pc)(hlen:(Fh a b c s1 s2).length≤4096)(hl:l1<l2∨(l1=l2∧l1≤3))(hx:PR (Fd a b c s1 s2) x d p)(hy:PR (Gm a b c s1 s2) y h q):
  h=d∧(d=0∨d=3∨d=22)∧A8 x y:=by
 obtain⟨La,la,ia⟩:=Fx ha;obtain⟨Lb,lb,ib⟩:=Fx hb;obtain⟨Lc,lc,ic⟩:=Fx hc;have hn:=Ia a b c s1 s2;obtain⟨us,hu,hst⟩:=Ho (Ij g1 g2 la lb lc) (by omega);obtain⟨vs,hv,hst2⟩:=Ho (Qg g1 g2 la lb lc) (by omega);exact Kg (fun T U=>Rz) hu hv (Mo g1 g2 hst (E4 (Dm hu)) ia ib ic hl) (Qh g1 g2 hst2 (E4 (Dm hv)) ia ib ic) hx hy
end Go.Proofs.YtpjkfeehgookkaaGreatDoor
