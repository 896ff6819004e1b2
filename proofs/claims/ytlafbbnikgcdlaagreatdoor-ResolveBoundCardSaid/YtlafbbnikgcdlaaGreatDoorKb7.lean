/- A part of the proof: Ri, Nh, Hn, Oa. -/
import Derived.Lib.ItoaLen
import GoSem.ClaimJoined
import Derived.Test.YtlafbbnikgcdlaaGreatDoorKb4
import Derived.Test.YtlafbbnikgcdlaaGreatDoorKb5
namespace Go.Proofs.YtlafbbnikgcdlaaGreatDoor
open Go.RowKit
set_option linter.all false
set_option maxHeartbeats 16000000
set_option maxRecDepth 100000
variable{p:Prop}
open List renaming length_cons→Lc',length_append→La',mem_cons_self→Lm',cons_append→Lp',length_nil→Ln',append_assoc→Ls'
open Nat renaming le_refl→Nr'
open Bool renaming and_eq_true→Ba'
structure Ck where
 parts:Int
 ever:List Int
 now:List Int
def Ck.one(c:Ck):Ck:=⟨c.parts+1,c.ever,c.now⟩
def Ck.bind(c:Ck)(v:Int):Ck:=⟨c.parts,v::c.ever,c.now++[v]⟩
def E9(d:Nat)(c:Ck):Prop:=c.parts+1≤16384∧d≤600
def Tk(v:Int)(c:Ck):Prop:=0≤v∧v≤1048576∧v ∉ c.ever
def Tm(ls:List LB):Prop:=(∀ x ∈ ls,x≠[])∧Ni ls=false
def At.k_:At→Int
 | .mk k _ _ _ _ _ _ _=>k
mutual
inductive OkP:Bp→Nat→Ck→Ck→Prop
 | any {k d c} (hk:k=1∨k=6) (hp:E9 d c):OkP (.mk k 0 0 [] [] []) d c c.one
 | var {v d c} (hp:E9 d c) (hb:Tk v c.one):OkP (.mk 2 v 0 [] [] []) d c (c.one.bind v)
 | int {n d c} (hp:E9 d c) (h:-4611686018427387904≤n∧n≤4611686018427387903):OkP (.mk 3 0 n [] [] []) d c c.one
 | str {s d c} (hp:E9 d c) (h:s.length≤4096):OkP (.mk 4 0 0 s [] []) d c c.one
 | bool {n d c} (hp:E9 d c) (h:n=0∨n=1):OkP (.mk 5 0 n [] [] []) d c c.one
 | nam {k s args d c c1} (hk:(k=7∧args.length=0)∨(k=8∧args.length=1)) (hp:E9 d c) (hs:s≠[]) (h:OkPs args (d+1) c.one c1):OkP (.mk k 0 0 s [] args) d c c1
 | recd {ls args d c c1} (hl:args.length=ls.length) (ho:Tm ls) (hp:E9 d c) (h:OkPs args (d+1) c.one c1):OkP (.mk 9 0 0 [] ls args) d c c1
inductive OkPs:List Bp→Nat→Ck→Ck→Prop
 | nil {d c}:OkPs [] d c c
 | cons {x l d c c1 c2} (h:OkP x d c c1) (ht:OkPs l d c1 c2):OkPs (x::l) d c c2
end
class KdB where
 all:Prop
section
variable [KdB]
mutual
inductive OkT:At→Nat→Ck→Ck→Prop
 | var {a v d c} (hp:E9 d c) (h:v ∈ c.now):OkT (.mk 1 a v 0 [] [] [] []) d c c.one
 | int {a n d c} (hp:E9 d c) (h:-4611686018427387904≤n∧n≤4611686018427387903) (hK:KdB.all:=by trivial):OkT (.mk 2 a 0 n [] [] [] []) d c c.one
 | str {a s d c} (hp:E9 d c) (h:s.length≤4096) (hK:KdB.all:=by trivial):OkT (.mk 3 a 0 0 s [] [] []) d c c.one
 | bool {a n d c} (hp:E9 d c) (h:n=0∨n=1) (hK:KdB.all:=by trivial):OkT (.mk 4 a 0 n [] [] [] []) d c c.one
 | nam {k a s args d c c1} (hk:(k=6∧args.length=0)∨(k=13∧args.length=2)∨(k=14∧args.length=1)∨(k=15∧args.length=1)) (hp:E9 d c) (hs:s≠[]) (h:Kx args (d+1) c.one c1) (hK:KdB.all:=by trivial):OkT (.mk k a 0 0 s [] args []) d c c1
 | fn {a v args d c c1} (hl:args.length=1) (hp:E9 d c) (hb:Tk v c.one) (h:Kx args (d+1) (c.one.bind v) c1):OkT (.mk 7 a v 0 [] [] args []) d c ⟨c1.parts,c1.ever,c.now⟩
 | rec_ {a v x y d c c1} (hx:x.k_=7) (hp:E9 d c) (hb:Tk v c.one) (h:Kx [x,y] (d+1) (c.one.bind v) c1) (hK:KdB.all:=by trivial):OkT (.mk 10 a v 0 [] [] [x,y] []) d c ⟨c1.parts,c1.ever,c.now⟩
 | let_ {k a v x y d c c1 c2} (hk:k=9∨k=17) (hp:E9 d c) (h1:OkT x (d+1) c.one c1) (hb:Tk v c1) (h2:OkT y (d+1) (c1.bind v) c2) (hK:KdB.all:=by trivial):OkT (.mk k a v 0 [] [] [x,y] []) d c ⟨c2.parts,c2.ever,c.now⟩
 | mat {a args cs d c c1 c2} (hl:args.length=1) (hc:cs≠[]) (hp:E9 d c) (h1:Kx args (d+1) c.one c1) (h2:Ux cs (d+1) c1 c2) (hK:KdB.all:=by trivial):OkT (.mk 16 a 0 0 [] [] args cs) d c c2
 | recd {a ls args d c c1} (hl:args.length=ls.length) (ho:Tm ls) (hp:E9 d c) (h:Kx args (d+1) c.one c1) (hK:KdB.all:=by trivial):OkT (.mk 12 a 0 0 [] ls args []) d c c1
 | op {a n args d c c1} (hn:1≤n∧n≤21) (hl:args.length=D4 n) (hp:E9 d c) (h:Kx args (d+1) c.one c1) (hK:KdB.all:=by trivial):OkT (.mk 19 a 0 n [] [] args []) d c c1
 | gen {k a args d c c1} (hk:(k=5∧args.length=0)∨(k=8∧args.length=2)∨(k=11∧args.length=3)∨(k=18∧args.length=1)) (hp:E9 d c) (h:Kx args (d+1) c.one c1) (hK:KdB.all:=by trivial):OkT (.mk k a 0 0 [] [] args []) d c c1
inductive Kx:List At→Nat→Ck→Ck→Prop
 | nil {d c}:Kx [] d c c
 | cons {x l d c c1 c2} (h:OkT x d c c1) (ht:Kx l d c1 c2):Kx (x::l) d c c2
inductive Ux:List (Bp×At)→Nat→Ck→Ck→Prop
 | nil {d c}:Ux [] d c c
 | cons {p x l d c c1 c2 c3} (hp:OkP p d c c1) (hx:OkT x d c1 c2) (ht:Ux l d ⟨c2.parts,c2.ever,c.now⟩ c3):Ux ((p,x)::l) d c c3
end
theorem Kx.app{l m:List At}{d:Nat}{c c1 c2:Ck}(h:Kx l d c c1)(h2:Kx m d c1 c2):Kx (l++m) d c c2:=by
 induction l generalizing c with
 | nil=>cases h;exact h2
 | cons x l ih=>cases h with|cons h ht=>exact .cons h (ih ht)
theorem Ux.app{l m:List (Bp×At)}{d:Nat}{c c1 c2:Ck}(h:Ux l d c c1)(h2:Ux m d c1 c2):Ux (l++m) d c c2:=by
 induction l generalizing c with
 | nil=>cases h;exact h2
 | cons x l ih=>cases h with|cons hp hx ht=>exact .cons hp hx (ih ht)
end
theorem Gd(S:Sc)(nm:LB):∃ r,(S.bind nm).l=S.l++r:=by
 simp only[Sc.bind];split
 ·exact⟨[],sM⟩
 ·exact⟨_,rfl⟩
theorem preP_pre(k a:Int)(nm:LB)(ls:List LB)(m:Nat)(S:Sc):∃ r,(preP k a nm ls m S).l=S.l++r:=by
 unfold preP;split
 ·obtain⟨r,hr⟩:=Gd (if (S.l.drop m).any (fun b=>b.1==nm)=true then S.fail 24 a else S) nm;refine⟨r,hr.trans ?_⟩
  congr 1
  split
  ·exact(Lr _ _ _).1
  ·rfl
 ·split
  ·exact⟨[],by rw[(K9 _ _ _).1];simp⟩
  ·exact⟨[],sM⟩
mutual
theorem V1:∀ (x:Al)(m:Nat)(S:Sc),∃ r,(tmP x m S).2.l=S.l++r
 | .mk k a nm n s ls args,m,S=>by
  obtain⟨r,hr⟩:=preP_pre k a nm ls m S;obtain⟨q,hq⟩:=He args m (preP k a nm ls m S);rw[Hl];exact⟨r++q,by dsimp only;rw[hq,hr,Ls']⟩
theorem He:∀ (l:List Al)(m:Nat)(S:Sc),∃ r,(Bt l m S).2.l=S.l++r
 | [],_,S=>⟨[],by simp[Bt]⟩
 | x::l,m,S=>by
  obtain⟨r,hr⟩:=V1 x m S;obtain⟨q,hq⟩:=He l m (tmP x m S).2;exact⟨r++q,by rw[Bt];dsimp only;rw[hq,hr,Ls']⟩
end
theorem Qo{S T:Sc}{r:List (List UInt8×Int)}(h:T.l=S.l++r):(T.cut S.l.length).l=S.l:=by
 show T.l.take _=_;rw[h,List.take_left]
theorem mid_pre(S:Sc)(b:Option LB):∃ r,(Pi b S).l=S.l++r:=by
 cases b with
 | none=>exact⟨[],by simp[Pi]⟩
 | some nm=>exact Gd S nm
mutual
theorem P8:∀ (x:Ad)(S:Sc),(tmE x S).2.l=S.l
 | .mk k a nm n s ls args arms,S=>by
  rcases Ho k with rfl|rfl|hk|rfl|rfl|rfl|rfl|rfl|rfl|hk
  ·rw[Ul];dsimp only;unfold Sc.find;split
   ·rfl
   ·exact(Lr _ _ _).1
  ·rw[Um];exact qq275
  ·rw[Sx k a hk];obtain⟨r,hr⟩:=tmEs_l args (some (if k=20 then [95] else nm)) S;exact Qo hr
  ·rw[Pn];exact qq275
  ·rw[Po];exact(Ms args _).trans (K9 _ _ _).1
  ·rw[Pp];exact(tmAs_l arms _).trans (Ms args _)
  ·rw[Pq];refine(tmAs_l arms _).trans ?_;exact tmEs_b args S
  ·rw[Pr];exact Ms args _
  ·rw[Ps];exact Ms args _
  ·rw[Li hk];exact Ms args _
theorem Ms:∀ (l:List Ad)(S:Sc),(Bf l none S).2.2.l=S.l
 | [],_=>rfl
 | x::l,S=>(Ms l _).trans (P8 x S)
theorem tmEs_b:∀ (l:List Ad)(S:Sc),(Bf l (some [95]) S).2.2.l=S.l
 | [],_=>rfl
 | x::l,S=>(Ms l _).trans (P8 x S)
theorem tmEs_l:∀ (l:List Ad)(b:Option LB)(S:Sc),∃ r,(Bf l b S).2.2.l=S.l++r
 | [],_,S=>⟨[],by simp[Bf]⟩
 | x::l,b,S=>by
  obtain⟨r,hr⟩:=mid_pre (tmE x S).2 b;refine⟨r,?_⟩;rw[Bf];dsimp only;rw[Ms l,hr,P8 x S]
theorem tmAs_l:∀ (l:List (Al×Ad))(S:Sc),(Eb l S).2.l=S.l
 | [],_=>rfl
 | (p,x)::l,S=>by
  obtain⟨r,hr⟩:=V1 p S.l.length S;refine(tmAs_l l _).trans ?_;rw[tmA];exact Qo (S:=S) (r:=r) (by rw[P8 x,hr])
end
def Gr(S S':Sc)(k:Nat):Prop:=S.n≤S'.n∧S'.n≤S.n+k∧S'.l.length≤S.l.length+k
theorem Gr.refl(S:Sc):Gr S S 0:=⟨oM,oM,oM⟩
theorem Gr.trans{S T U:Sc}{j k:Nat}(h:Gr S T j)(g:Gr T U k):Gr S U (j+k):=by
 obtain⟨h1,h2,h3⟩:=h;obtain⟨g1,g2,g3⟩:=g;exact⟨oM,oM,oM⟩
theorem Gr.mono{S T:Sc}{j k:Nat}(h:Gr S T j)(hk:j≤k):Gr S T k:=by
 obtain⟨h1,h2,h3⟩:=h;exact⟨oM,oM,oM⟩
theorem Gr.fail(S:Sc)(e a:Int):Gr S (S.fail e a) 0:=by
 unfold Sc.fail;split
 ·exact⟨sM,sM,sM⟩
 ·exact Gr.refl S
theorem Gr.labels(S:Sc)(ls:List LB)(a:Int):Gr S (S.labels ls a) 0:=by
 unfold Sc.labels;split
 ·exact Gr.fail _ _ _
 ·exact Gr.refl S
theorem Gr.bind(S:Sc)(nm:LB):Gr S (S.bind nm) 1:=by
 unfold Sc.bind;refine⟨by simp;omega,sM,?_⟩;dsimp only;split <;> simp
theorem Gr.cut(S:Sc)(m:Nat):Gr S (S.cut m) 0:=⟨by simp[Sc.cut],by simp[Sc.cut],by simp[Sc.cut];omega⟩
theorem Gr.mid(S:Sc)(b:Option LB):Gr S (Pi b S) (if b.isSome then 1 else 0):=by
 cases b with
 | none=>exact Gr.refl S
 | some nm=>exact Gr.bind S nm
theorem Gr.preP(k a:Int)(nm:LB)(ls:List LB)(m:Nat)(S:Sc):Gr S (preP k a nm ls m S) 1:=by
 unfold Go.Proofs.YtlafbbnikgcdlaaGreatDoor.preP;split
 ·split
  ·exact(Gr.fail _ _ _).trans (Gr.bind _ _)
  ·exact Gr.bind _ _
 ·split
  ·exact(Gr.labels _ _ _).mono oM
  ·exact(Gr.refl _).mono oM
mutual
theorem tmP_gr:∀ (x:Al)(m:Nat)(S:Sc),Gr S (tmP x m S).2 (szP x)
 | .mk k a nm n s ls args,m,S=>by
  rw[Hl,szP];exact(Gr.preP k a nm ls m S).trans (Iv args m _)
theorem Iv:∀ (l:List Al)(m:Nat)(S:Sc),Gr S (Bt l m S).2 (E2 l)
 | [],_,S=>Gr.refl S
 | x::l,m,S=>by
  rw[Bt,E2];exact(tmP_gr x m S).trans (Iv l m _)
end
mutual
theorem Pt:∀ (x:Ad)(S:Sc),Gr S (tmE x S).2 (szE x)
 | .mk k a nm n s ls args arms,S=>by
  rw[szE];rcases Ho k with rfl|rfl|hk|rfl|rfl|rfl|rfl|rfl|rfl|hk
  ·rw[Ul];dsimp only;unfold Sc.find;split
   ·exact(Gr.refl S).mono oM
   ·exact(Gr.fail S _ _).mono oM
  ·rw[Um];exact qq300
  ·rw[Sx k a hk];exact((Hg args (some (if k=20 then [95] else nm)) S).trans (Gr.cut _ _)).mono (by simp <;> omega)
  ·rw[Pn];exact qq300
  ·rw[Po];exact((Gr.labels S ls a).trans (Hg args none _)).mono (by simp <;> omega)
  ·rw[Pp];exact((Hg args none S).trans (Qv arms _)).mono (by simp <;> omega)
  ·rw[Pq];exact((Hg args (some [95]) S).trans (Qv arms _)).mono (by simp <;> omega)
  ·rw[Pr];exact(Hg args none S).mono (by simp <;> omega)
  ·rw[Ps];exact(Hg args none S).mono (by simp <;> omega)
  ·rw[Li hk];exact(Hg args none S).mono (by simp <;> omega)
theorem Hg:∀ (l:List Ad)(b:Option LB)(S:Sc),Gr S (Bf l b S).2.2 ((if b.isSome then 1 else 0)+Bk l)
 | [],b,S=>(Gr.refl S).mono oM
 | x::l,b,S=>by
  rw[Bf,Bk];dsimp only;exact(((Pt x S).trans (Gr.mid _ b)).trans (Hg l none _)).mono (by simp <;> omega)
theorem Qv:∀ (l:List (Al×Ad))(S:Sc),Gr S (Eb l S).2 (B1 l)
 | [],S=>Gr.refl S
 | (p,x)::l,S=>by
  rw[Eb,B1,tmA,szA];dsimp only;exact((((tmP_gr p _ S).trans (Pt x _)).trans (Gr.cut _ _)).trans (Qv l _)).mono oM
end
def SB(S:Sc)(k:Nat):Prop:=0≤S.n∧S.n+k≤1099511627776∧S.l.length+k≤1099511627776
theorem SB.step{S S':Sc}{j k:Nat}(h:SB S (j+k))(g:Gr S S' j):SB S' k:=by
 obtain⟨h1,h2,h3⟩:=h;obtain⟨g1,g2,g3⟩:=g;exact⟨oM,oM,oM⟩
theorem SB.mono{S:Sc}{j k:Nat}(h:SB S j)(hk:k≤j):SB S k:=by
 obtain⟨h1,h2,h3⟩:=h;exact⟨oM,oM,oM⟩
theorem Un(x:Ad):∀ (l:List Ad)(S:Sc),(Bf (l++[x]) none S).1=(Bf l none S).1++[(tmE x (Bf l none S).2.2).1]∧(Bf (l++[x]) none S).2.2=(tmE x (Bf l none S).2.2).2
 | [],S=>⟨rfl,rfl⟩
 | y::l,S=>by
  have:=Un x l (tmE y S).2;exact⟨by rw[Lp',Bf,Bf];dsimp only[Pi];rw[this.1];rfl,by rw[Lp',Bf,Bf];exact this.2⟩
theorem tmEs_take{l:List Ad}{i:Nat}{x:Ad}(h:l[i]?=some x)(S:Sc):(Bf (l.take (i+1)) none S).1=(Bf (l.take i) none S).1++[(tmE x (Bf (l.take i) none S).2.2).1]∧(Bf (l.take (i+1)) none S).2.2=(tmE x (Bf (l.take i) none S).2.2).2:=by
 rw[List.take_add_one,h];exact Un x _ S
theorem Hv:∀ (l:List Ad)(b:Option LB)(S:Sc),(Bf l b S).1.length=l.length
 | [],_,_=>rfl
 | x::l,b,S=>by rw[Bf];simp[Hv l]
theorem szEs_take{l:List Ad}{i:Nat}{x:Ad}(h:l[i]?=some x):Bk (l.take i)+szE x≤Bk l:=by
 induction l generalizing i with
 | nil=>simp at h
 | cons y l ih =>
  cases i with
  | zero=>simp at h;subst h;simp[Bk]
  | succ i=>have:=ih (i:=i) (by simpa using h);simp only[List.take_succ_cons,Bk];omega
theorem Uo(x:Al)(m:Nat):∀ (l:List Al)(S:Sc),(Bt (l++[x]) m S).1=(Bt l m S).1++[(tmP x m (Bt l m S).2).1]∧(Bt (l++[x]) m S).2=(tmP x m (Bt l m S).2).2
 | [],S=>⟨rfl,rfl⟩
 | y::l,S=>by
  have:=Uo x m l (tmP y m S).2;exact⟨by rw[Lp',Bt,Bt];dsimp only;rw[this.1];rfl,by rw[Lp',Bt,Bt];exact this.2⟩
theorem Hw{l:List Al}{i:Nat}{x:Al}(h:l[i]?=some x)(m:Nat)(S:Sc):(Bt (l.take (i+1)) m S).1=(Bt (l.take i) m S).1++[(tmP x m (Bt (l.take i) m S).2).1]∧(Bt (l.take (i+1)) m S).2=(tmP x m (Bt (l.take i) m S).2).2:=by
 rw[List.take_add_one,h];exact Uo x m _ S
theorem Do:∀ (l:List Al)(m:Nat)(S:Sc),(Bt l m S).1.length=l.length
 | [],_,_=>rfl
 | x::l,m,S=>by rw[Bt];simp[Do l]
theorem Ht{l:List Al}{i:Nat}{x:Al}(h:l[i]?=some x):E2 (l.take i)+szP x≤E2 l:=by
 induction l generalizing i with
 | nil=>simp at h
 | cons y l ih =>
  cases i with
  | zero=>simp at h;subst h;simp[E2]
  | succ i=>have:=ih (i:=i) (by simpa using h);simp only[List.take_succ_cons,E2];omega
def inN(n:Int):Prop:=-9223372036854775808≤n∧n≤9223372036854775807
def nmOk(nm:LB)(n:Int)(s:LB)(ls:List LB):Prop:=nm.length≤65536∧inN n∧s.length≤65536∧∀ x ∈ ls,x.length≤65536
mutual
def SwP:Al→Prop
 | .mk _ _ nm n s ls args=>nmOk nm n s ls∧Ra args
def Ra:List Al→Prop
 | []=>True
 | x::l=>SwP x∧Ra l
end
mutual
def SwE:Ad→Prop
 | .mk _ _ nm n s ls args arms=>nmOk nm n s ls∧Kq args∧Pa arms
def Kq:List Ad→Prop
 | []=>True
 | x::l=>SwE x∧Kq l
def Pa:List (Al×Ad)→Prop
 | []=>True
 | x::l=>SwA x∧Pa l
def SwA:Al×Ad→Prop
 | (p,x)=>SwP p∧SwE x
end
theorem Ra.get{l:List Al}(h:Ra l){i:Nat}{x:Al}(hi:l[i]?=some x):SwP x:=by
 exact qq140
theorem Kq.get{l:List Ad}(h:Kq l){i:Nat}{x:Ad}(hi:l[i]?=some x):SwE x:=by
 exact qq140
theorem Pa.get{l:List (Al×Ad)}(h:Pa l){i:Nat}{p:Al}{x:Ad}(hi:l[i]?=some (p,x)):SwP p∧SwE x:=by
 exact qq140
theorem Ra.app{l:List Al}{x:Al}(h:Ra l)(hx:SwP x):Ra (l++[x]):=by
 exact qq315
theorem Kq.app{l:List Ad}{x:Ad}(h:Kq l)(hx:SwE x):Kq (l++[x]):=by
 exact qq315
theorem Pa.app{l:List (Al×Ad)}{p:Al}{x:Ad}(h:Pa l)(hp:SwP p)(hx:SwE x):Pa (l++[(p,x)]):=by
 induction l with
 | nil=>exact⟨⟨hp,hx⟩,trivial⟩
 | cons y l ih=>exact⟨h.1,ih h.2⟩
def sumL:List LB→Nat
 | []=>0
 | x::l=>x.length+sumL l
def Yj:List (List UInt8×LB)→Nat
 | []=>0
 | (p,x)::l=>p.length+x.length+Yj l
theorem sum3(l:List LB):(l.getD 0 []).length+(l.getD 1 []).length+(l.getD 2 []).length≤sumL l:=by
 match l with
 | []=>simp
 | [a]=>simp[sumL]
 | [a,b]=>simp[sumL]
 | a::b::c::l=>simp[sumL];omega
theorem row_len{ls:List LB}(h:∀ x ∈ ls,x.length≤65536):∀ (f:Bool)(l:List LB),(Jj f ls l).length≤sumL l+65541 * l.length:=by
 induction ls with
 | nil=>intro f l;simp[Jj]
 | cons x ls ih =>
  intro f l
  cases l with
  | nil=>simp[Jj]
  | cons t l =>
   have h1:=ih (fun x hx=>h x (List.mem_cons_of_mem _ hx)) false l;have h2:=h x (Lm' ..);have h3:(if f=true then ([]:LB)else [44,32]).length≤2:=by split <;> simp
   simp only[Jj,sumL,La',Lc',Ln'];omega
theorem call_len(l:List LB):(Ik l).length=sumL l+l.length:=by
 induction l with
 | nil=>rfl
 | cons t l ih=>simp only[Ik,sumL,La',Lc',ih];omega
theorem arm_len:∀ (f:Bool)(l:List (List UInt8×LB)),(J3 f l).length≤Yj l+7 * l.length
 | _,[]=>by simp[J3]
 | f,(p,t)::l=>by
  have h1:=arm_len false l;have h3:(if f=true then ([]:LB)else [32,124,32]).length≤3:=by split <;> simp
  simp only[J3,Yj,La',Lc',Ln'];omega
theorem Zq(l:LB):(Ia l).length≤l.length:=by unfold Ia;rw[List.length_dropLast,List.length_drop];omega
theorem ite5{p:Prop} [Decidable p] {a b:LB}(ha:a.length≤5)(hb:b.length≤5):(if p then a else b).length≤5:=by split <;> assumption
theorem Vc{p:Prop} [Decidable p] {a b:LB}{n:Nat}(ha:a.length≤n)(hb:b.length≤n):(if p then a else b).length≤n:=by split <;> assumption
theorem Sq(n:Int):(Fj n).length≤5:=by
 unfold Fj
 repeat refine ite5 dC ?_
 decide
theorem Up(n:Int):(Ir n).length≤5:=ite5 dC dC
theorem Uh(s:LB):(Dr s).length≤4 * s.length+2:=by
 have:=N8 s;simp only[Dr,La',Lc',Ln'];omega
theorem patT_len{k:Int}{nm:LB}{n:Int}{s:LB}{ls:List LB}(h:nmOk nm n s ls)(l:List LB):(Ow k nm n s ls l).length≤300000+(sumL l+65541 * l.length):=by
 obtain⟨h1,h2,h3,h4⟩:=h;have a1:=sum3 l;have a2:=row_len h4 true l;have a3:=Lib.itoa_length_le n h2.1 h2.2;have a4:=Uh s;have a5:=Up n;unfold Ow
 repeat' with_reducible refine Vc ?_ ?_
 all_goals try simp only[La',Lc',Ln'] at *
 all_goals omega
theorem textT_len{k:Int}{nm:LB}{n:Int}{s:LB}{ls:List LB}(h:nmOk nm n s ls)(l:List LB)(m:List (List UInt8×LB)):(E4 k nm n s ls l m).length≤300000+(sumL l+65541 * l.length)+(Yj m+7 * m.length):=by
 obtain⟨h1,h2,h3,h4⟩:=h;have a1:=sum3 l;have a2:=row_len h4 true l;have a3:=Lib.itoa_length_le n h2.1 h2.2;have a4:=Uh s;have a5:=Up n;have a6:=call_len l;have a7:=arm_len true m;have a8:=Zq (l.getD 0 []);have a9:=Sq n
 have b1:(opT n l).length≤10+sumL l+l.length:=by
  unfold opT;exact qq184
 have b2:(Bv k nm n l m).length≤299000+(sumL l+l.length)+(Yj m+7 * m.length):=by
  unfold Bv;exact qq184
 unfold E4;exact qq184
theorem bd_add{a b c d e K M:Nat}(h1:a+M≤K * c)(h2:b+M * d≤K * e):a+b+M *(d+1)≤K *(c+e):=by
 rw[Nat.mul_add,Nat.mul_add,Nat.mul_one];omega
theorem bd_add2{a b c d e f K:Nat}(h1:a+f+7≤K * c)(h2:b+7 * d≤K * e):a+f+b+7 *(d+1)≤K *(c+e):=by
 rw[Nat.mul_add K];omega
mutual
theorem txP_bd:∀ x:Al,SwP x→(txP x).length+65541≤1048576 * szP x
 | .mk k a nm n s ls args,h=>by
  have h1:=txPs_bd args h.2;have h2:=patT_len (k:=k) h.1 (Ih args);simp only[txP,szP];omega
theorem txPs_bd:∀ l:List Al,Ra l→sumL (Ih l)+65541 *(Ih l).length≤1048576 * E2 l
 | [],_=>by simp[Ih,sumL]
 | x::l,h=>by
  have h1:=txP_bd x h.1;have h2:=txPs_bd l h.2;simp only[Ih,E2,sumL,Lc'];exact bd_add h1 h2
end
mutual
theorem txE_bd:∀ x:Ad,SwE x→(txE x).length+65541≤1048576 * szE x
 | .mk k a nm n s ls args arms,h=>by
  have h1:=txEs_bd args h.2.1;have h3:=txAs_bd arms h.2.2;have h2:=textT_len (k:=k) h.1 (Bj args) (Dp arms);simp only[txE,szE];omega
theorem txEs_bd:∀ l:List Ad,Kq l→sumL (Bj l)+65541 *(Bj l).length≤1048576 * Bk l
 | [],_=>by simp[Bj,sumL]
 | x::l,h=>by
  have h1:=txE_bd x h.1;have h2:=txEs_bd l h.2;simp only[Bj,Bk,sumL,Lc'];exact bd_add h1 h2
theorem txAs_bd:∀ l:List (Al×Ad),Pa l→Yj (Dp l)+7 *(Dp l).length≤1048576 * B1 l
 | [],_=>by simp[Dp,Yj]
 | x::l,h=>by
  have h1:=txA_bd x h.1;have h2:=txAs_bd l h.2;simp only[Dp,B1,Lc'];revert h1;generalize txA x=y;obtain⟨p,t⟩:=y;intro h1;simp only[Yj];simp only at h1;exact bd_add2 h1 h2
theorem txA_bd:∀ x:Al×Ad,SwA x→(txA x).1.length+(txA x).2.length+7≤1048576 * szA x
 | (p,x),h=>by
  have h1:=txP_bd p h.1;have h2:=txE_bd x h.2;simp only[txA,szA];omega
end
inductive WlP:Al→Prop
 | mk {k a nm n s ls args} (h1:nm.length≤reachBytes) (h2:s.length≤reachBytes) (h3:ls.length * 16≤reachBytes) (h4:∀ (i:Nat) (x:LB),ls[i]?=some x→x.length≤reachBytes) (h5:args.length * 104≤reachBytes) (h6:∀ (i:Nat) (x:Al),args[i]?=some x→WlP x):WlP (.mk k a nm n s ls args)
inductive WlE:Ad→Prop
 | mk {k a nm n s ls args arms} (h1:nm.length≤reachBytes) (h2:s.length≤reachBytes) (h3:ls.length * 16≤reachBytes) (h4:∀ (i:Nat) (x:LB),ls[i]?=some x→x.length≤reachBytes) (h5:args.length * 128≤reachBytes) (h6:∀ (i:Nat) (x:Ad),args[i]?=some x→WlE x) (h7:arms.length * 232≤reachBytes) (h8:∀ (i:Nat) (p:Al) (x:Ad),arms[i]?=some (p,x)→WlP p) (h9:∀ (i:Nat) (p:Al) (x:Ad),arms[i]?=some (p,x)→WlE x):WlE (.mk k a nm n s ls args arms)
theorem Ui{h:Lm}{nm s:LB}{n:Int}{nl na ma:Nat}(hl:h.labels=true→h.args=nl)(hr:Ah h nm n s nl na ma=true):nl≤na:=by
 unfold Ah at hr;rw[Ba',Ba',Ba',Ba',Ba'] at hr;have h4:=hr.1.1.2;have h5:=beq_iff_eq.1 hr.1.2;rw[Bool.or_eq_true,beq_iff_eq] at h4;rcases h4 with c|c
 ·rw[h5,hl c];exact Nr' _
 ·omega
theorem hasE_ls{k n:Int}{nl:Nat}{h:Lm}(hh:Cc k n nl=some h):h.labels=true→h.args=nl:=by
 unfold Cc at hh;intro hc;by_cases c0:k=1∨k=6
 ·rw[if_pos c0] at hh;cases hh;first|(cases hc;done)| rfl
 rw[if_neg c0] at hh;by_cases c1:k=2∨k=4
 ·rw[if_pos c1] at hh;cases hh;first|(cases hc;done)| rfl
 rw[if_neg c1] at hh;by_cases c2:k=3
 ·rw[if_pos c2] at hh;cases hh;first|(cases hc;done)| rfl
 rw[if_neg c2] at hh;by_cases c3:k=5
 ·rw[if_pos c3] at hh;cases hh;first|(cases hc;done)| rfl
 rw[if_neg c3] at hh;by_cases c4:k=7∨k=14∨k=15
 ·rw[if_pos c4] at hh;cases hh;first|(cases hc;done)| rfl
 rw[if_neg c4] at hh;by_cases c5:k=8∨k=20∨k=21∨k=22
 ·rw[if_pos c5] at hh;cases hh;first|(cases hc;done)| rfl
 rw[if_neg c5] at hh;by_cases c6:k=9∨k=10∨k=13
 ·rw[if_pos c6] at hh;cases hh;first|(cases hc;done)| rfl
 rw[if_neg c6] at hh;by_cases c7:k=11
 ·rw[if_pos c7] at hh;cases hh;first|(cases hc;done)| rfl
 rw[if_neg c7] at hh;by_cases c8:k=12
 ·rw[if_pos c8] at hh;cases hh;first|(cases hc;done)| rfl
 rw[if_neg c8] at hh;by_cases c9:k=16∨k=17
 ·rw[if_pos c9] at hh;cases hh;first|(cases hc;done)| rfl
 rw[if_neg c9] at hh;by_cases c10:k=18
 ·rw[if_pos c10] at hh;cases hh;first|(cases hc;done)| rfl
 rw[if_neg c10] at hh;by_cases c11:k=19∧1≤n∧n≤21
 ·rw[if_pos c11] at hh;cases hh;first|(cases hc;done)| rfl
 rw[if_neg c11] at hh;cases hh
theorem hasP_ls{k:Int}{nl:Nat}{h:Lm}(hh:Ez k nl=some h):h.labels=true→h.args=nl:=by
 unfold Ez at hh;intro hc;by_cases c0:k=2∨k=7
 ·rw[if_pos c0] at hh;cases hh;first|(cases hc;done)| rfl
 rw[if_neg c0] at hh;by_cases c1:k=3∨k=5
 ·rw[if_pos c1] at hh;cases hh;first|(cases hc;done)| rfl
 rw[if_neg c1] at hh;by_cases c2:k=4
 ·rw[if_pos c2] at hh;cases hh;first|(cases hc;done)| rfl
 rw[if_neg c2] at hh;by_cases c3:k=8
 ·rw[if_pos c3] at hh;cases hh;first|(cases hc;done)| rfl
 rw[if_neg c3] at hh;by_cases c4:k=9
 ·rw[if_pos c4] at hh;cases hh;first|(cases hc;done)| rfl
 rw[if_neg c4] at hh;by_cases c5:k=1∨k=6
 ·rw[if_pos c5] at hh;cases hh;first|(cases hc;done)| rfl
 rw[if_neg c5] at hh;cases hh
theorem Yn:∀ l:List Ad,l.length≤Bk l
 | []=>Nat.zero_le _
 | x::l=>by
  have:=Yn l;obtain⟨k,a,nm,n,s,ls,args,arms⟩:=x;rw[Bk,szE,Lc'];omega
theorem Yp:∀ l:List Al,l.length≤E2 l
 | []=>Nat.zero_le _
 | x::l=>by
  have:=Yp l;obtain⟨k,a,nm,n,s,ls,args⟩:=x;rw[E2,szP,Lc'];omega
theorem Ym:∀ l:List (Al×Ad),l.length≤B1 l
 | []=>Nat.zero_le _
 | (p,x)::l=>by
  have:=Ym l;obtain⟨k,a,nm,n,s,ls,args,arms⟩:=x;rw[B1,szA,szE,Lc'];omega
mutual
theorem wlP_of:∀ {x:Al},Fb x=true→szP x≤4096→SwP x→WlP x
 | .mk k a nm n s ls args,hm,hs,hw=>by
  rw[Fb,Ba'] at hm;rw[szP] at hs;rw[SwP] at hw;obtain⟨⟨w1,w2,w3,w4⟩,w5⟩:=hw
  have hl:ls.length≤args.length:=by
   have hf:=hm.1;unfold Hm at hf;rw[Ba'] at hf
   cases hh:Ez k ls.length with
   | none=>rw[hh] at hf;cases hf.1
   | some h=>rw[hh] at hf;exact Ui (hasP_ls hh) hf.1
  have hn:=Yp args;refine .mk ?_ ?_ ?_ (fun i x hx=>?_) ?_ (wlPs_of hm.2 oM w5)
  ·exact qq199
  ·exact qq199
  ·exact qq199
  ·have:=w4 x (List.mem_of_getElem? hx);exact qq199
  ·exact qq199
theorem wlPs_of:∀ {l:List Al},Dt l=true→E2 l≤4096→Ra l→∀ (i:Nat)(x:Al),l[i]?=some x→WlP x
 | [],_,_,_=>fun i x hx=>by simp at hx
 | y::l,hm,hs,hw=>fun i x hx=>by
  rw[Dt,Ba'] at hm;rw[E2] at hs;rw[Ra] at hw
  cases i with
  | zero =>
   have:y=x:=by simpa using hx
   subst this;exact wlP_of hm.1 oM hw.1
  | succ i=>exact wlPs_of hm.2 oM hw.2 i x (by simpa using hx)
end
mutual
theorem wl_of:∀ {x:Ad},Bh x=true→szE x≤4096→SwE x→WlE x
 | .mk k a nm n s ls args arms,hm,hs,hw=>by
  rw[Bh,Ba',Ba'] at hm;rw[szE] at hs;rw[SwE] at hw;obtain⟨⟨w1,w2,w3,w4⟩,w5,w6⟩:=hw
  have hl:ls.length≤args.length:=by
   have hf:=hm.1.1;unfold D3 at hf;rw[Ba'] at hf
   cases hh:Cc k n ls.length with
   | none=>rw[hh] at hf;cases hf.1
   | some h=>rw[hh] at hf;exact Ui (hasE_ls hh) hf.1
  have hn:=Yn args;have hn2:=Ym arms;have hA:=wlAs_of hm.2 oM w6;refine .mk ?_ ?_ ?_ (fun i x hx=>?_) ?_ (wlEs_of hm.1.2 oM w5) ?_ (fun i p x hx=>(hA i p x hx).1) (fun i p x hx=>(hA i p x hx).2)
  ·exact qq199
  ·exact qq199
  ·exact qq199
  ·have:=w4 x (List.mem_of_getElem? hx);exact qq199
  ·exact qq199
  ·exact qq199
theorem wlEs_of:∀ {l:List Ad},Ax l=true→Bk l≤4096→Kq l→∀ (i:Nat)(x:Ad),l[i]?=some x→WlE x
 | [],_,_,_=>fun i x hx=>by simp at hx
 | y::l,hm,hs,hw=>fun i x hx=>by
  rw[Ax,Ba'] at hm;rw[Bk] at hs;rw[Kq] at hw
  cases i with
  | zero =>
   have:y=x:=by simpa using hx
   subst this;exact wl_of hm.1 oM hw.1
  | succ i=>exact wlEs_of hm.2 oM hw.2 i x (by simpa using hx)
theorem wlAs_of:∀ {l:List (Al×Ad)},Bd l=true→B1 l≤4096→Pa l→∀ (i:Nat)(p:Al)(x:Ad),l[i]?=some (p,x)→WlP p∧WlE x
 | [],_,_,_=>fun i p x hx=>by simp at hx
 | (q,y)::l,hm,hs,hw=>fun i p x hx=>by
  rw[Bd,mayA,Ba',Ba'] at hm;rw[B1,szA] at hs;rw[Pa,SwA] at hw
  cases i with
  | zero =>
   have:(q,y)=(p,x):=by simpa using hx
   cases this;exact⟨wlP_of hm.1.1 oM hw.1.1,wl_of hm.1.2 oM hw.1.2⟩
  | succ i=>exact wlAs_of hm.2 oM hw.2 i p x (by simpa using hx)
end
end Go.Proofs.YtlafbbnikgcdlaaGreatDoor
