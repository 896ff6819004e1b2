/- A part of the proof: Ha, Ni, Nj, Nl, Ns, Ta, Tb, Tc, Nu, Np. -/
import Derived.Test.YtlafbbnikgcdlaaGreatDoorKb17
namespace Go.Proofs.YtlafbbnikgcdlaaGreatDoor
open Go.RowKit
open _root_.Go.Proofs.Tryz
set_option linter.all false
set_option maxHeartbeats 16000000
set_option maxRecDepth 100000
variable{p:Prop}
open List renaming length_append→La',getElem?_eq_getElem→Lg',cons_append→Lp',append_assoc→Ls'
open Nat renaming lt_of_lt_of_le→Nl',le_refl→Nr'
open Bool renaming and_eq_true→Ba'
def W(s:LB):Sp:=(6,s,0)
def G(s:LB):Sp:=(7,s,0)
def Vp:Bool→List LB→List (List Sp)→List Sp
 | _,[],_=>[]
 | _,_::_,[]=>[]
 | f,x::ls,t::l=>(if f=true then [] else [G [44]])++((1,x,0)::G [61]::(t++Vp false ls l))
def Te:Bool→List (List Sp×List Sp)→List Sp
 | _,[]=>[]
 | f,(p,t)::l=>(if f=true then [] else [G [124]])++(p++(G [45,62]::(t++Te false l)))
def To:List (List Sp)→List Sp
 | []=>[]
 | t::l=>t++To l
def Sn(n:Int):Sp:=if n=9∨n=10∨13≤n then W (Fj n)else G (Fj n)
def opK(n:Int)(l:List (List Sp)):List Sp :=
 if n=6∨n=9∨n=11 then Sn n::l.getD 0 []
 else if n≤8∨n=12 then l.getD 0 []++(Sn n::l.getD 1 [])
 else Sn n::To l
def Oi(l:List Sp):List Sp:=(l.drop 1).dropLast
def G4(k:Int)(nm:LB)(n:Int)(l:List (List Sp))(m:List (List Sp×List Sp)):List Sp :=
 if k=7 then W [102,117,110]::(1,nm,0)::G [45,62]::l.getD 0 []
 else if k=8 then l.getD 0 []++l.getD 1 []
 else if k=9 then W [108,101,116]::(1,nm,0)::G [61]::(l.getD 0 []++(W [105,110]::l.getD 1 []))
 else if k=10 then W [108,101,116]::W [114,101,99]::(1,nm,0)::G [61]::(Oi (l.getD 0 [])++(W [105,110]::l.getD 1 []))
 else if k=11 then W [105,102]::(l.getD 0 []++(W [116,104,101,110]::(l.getD 1 []++(W [101,108,115,101]::l.getD 2 []))))
 else if k=15 then (3,nm,0)::l.getD 0 []
 else if k=16 then W [109,97,116,99,104]::(l.getD 0 []++(W [119,105,116,104]::(Te true m++[W [101,110,100]])))
 else if k=17 then W [116,114,121]::(l.getD 0 []++(W [119,105,116,104]::(Te true m++[W [101,110,100]])))
 else if k=18 then W [114,97,105,115,101]::l.getD 0 []
 else if k=20 then l.getD 0 []++(G [59]::l.getD 1 [])
 else if k=21 then l.getD 0 []++(G [38,38]::l.getD 1 [])
 else if k=22 then l.getD 0 []++(G [124,124]::l.getD 1 [])
 else opK n l
def Hu(k:Int)(nm:LB)(n:Int)(s:LB)(ls:List LB)(l:List (List Sp))(m:List (List Sp×List Sp)):List Sp :=
 if k=1 then [(1,nm,0)]
 else if k=6 then [(2,nm,0)]
 else if k=2 then [(4,[],n)]
 else if k=3 then [(5,s,0)]
 else if k=4 then [W (Ir n)]
 else if k=5 then [G [40],G [41]]
 else if k=14 then l.getD 0 []++[G [46],(1,nm,0)]
 else if k=12 then G [123]::(Vp true ls l++[G [125]])
 else if k=13 then G [123]::(l.getD 0 []++(W [119,105,116,104]::(1,nm,0)::G [61]::(l.getD 1 []++[G [125]])))
 else G [40]::(G4 k nm n l m++[G [41]])
def patK(k:Int)(nm:LB)(n:Int)(s:LB)(ls:List LB)(l:List (List Sp)):List Sp :=
 if k=1 then [(1,[95],0)]
 else if k=2 then [(1,nm,0)]
 else if k=7 then [(2,nm,0)]
 else if k=3 then (if n<0 then [G [45],(4,[],-n)] else [(4,[],n)])
 else if k=4 then [(5,s,0)]
 else if k=5 then [W (Ir n)]
 else if k=6 then [G [40],G [41]]
 else if k=8 then G [40]::(3,nm,0)::(l.getD 0 []++[G [41]])
 else G [123]::(Vp true ls l++[G [125]])
mutual
def tkP:Al→List Sp
 | .mk k _ nm n s ls args=>patK k nm n s ls (Yq args)
def Yq:List Al→List (List Sp)
 | []=>[]
 | x::l=>tkP x::Yq l
end
mutual
def tkE:Ad→List Sp
 | .mk k _ nm n s ls args arms=>Hu k nm n s ls (Kf args) (tkAs arms)
def Kf:List Ad→List (List Sp)
 | []=>[]
 | x::l=>tkE x::Kf l
def tkAs:List (Al×Ad)→List (List Sp×List Sp)
 | []=>[]
 | x::l=>tkA x::tkAs l
def tkA:Al×Ad→List Sp×List Sp
 | (p,x)=>(tkP p,tkE x)
end
def Sep(r:LB):Prop:=∀ c t,r=c::t→Dh c=false
theorem Sep.nil_:Sep []:=fun c t h=>by cases h
theorem Sep.cons{c:UInt8}{t:LB}(h:Dh c=false):Sep (c::t):=fun d u e=>by cases e;exact h
theorem Lf{r:LB}(hr:Sep r):∀ {l:LB},l.all Dh=true→Cy (l++r)=l
 | [],_=>by
  cases r with
  | nil=>rfl
  | cons c t=>unfold Cy;rw[List.nil_append,List.takeWhile_cons_of_neg (by rw[hr c t rfl];decide)]
 | c::l,h=>by
  rw[List.all_cons,Ba'] at h;rw[Lp',Iq _ h.1,Lf hr h.2]
theorem Va{nm:LB}(h:Aw nm=true):∃ c r,nm=c::r∧Ef c=true∧nm.all Dh=true∧D8 nm=false:=by
 cases nm with
 | nil=>cases h
 | cons c r =>
  simp only[Aw,Ba',Bool.not_eq_true'] at h;exact⟨c,r,rfl,h.1.1,h.1.2,h.2⟩
theorem Qa{nm:LB}(h:Eg nm=true):∃ c r,nm=c::r∧C8 c=true∧nm.all Dh=true:=by
 cases nm with
 | nil=>cases h
 | cons c r =>
  simp only[Eg,Aw,Ba',List.all_cons] at h;exact⟨c,r,rfl,h.1,by rw[List.all_cons,Ba'];exact⟨h.2.1.2.2.1,h.2.1.2.2.2⟩⟩
theorem P5{c:UInt8}(h:Ef c=true):Fa c=false:=by
 exact qq197
theorem W6{c:UInt8}(h:C8 c=true):Fa c=false:=by
 exact qq197
theorem dig_blank{c:UInt8}(h:De c=true):Fa c=false:=by
 exact qq197
theorem Yi{c:UInt8}(h:C8 c=true):Ef c=false:=by
 unfold C8 at h;simp only[Ba',decide_eq_true_eq] at h;exact qq192
theorem small_dig{c:UInt8}(h:De c=true):Ef c=false∧C8 c=false∧c≠35:=by
 have h:=(Hn c).1 h;refine⟨?_,?_,fun e=>by subst e;exact absurd h dC⟩
 ·exact qq192
 ·unfold C8;rw[Bool.and_eq_false_iff];exact .inl (by rw[decide_eq_false_iff_not];omega)
theorem Hp{nm:LB}(h:Aw nm=true){r:LB}(hr:Sep r):Az (nm++r)=(Az r).map ((1,nm,0):: ·):=by
 obtain⟨c,t,rfl,hs,hb,hw⟩:=Va h;have e:Cy (c::(t++r))=c::t:=Lf hr hb
 have ht:tok (c::(t++r))= .ok (1,c::t,0,(c::t).length):=by
  rw[tok,if_pos hs,e,hw];rfl
 rw[Lp',Ct (P5 hs) ht,← Lp',List.drop_left]
theorem Cj{nm:LB}(h:D8 nm=true)(hb:nm.all Dh=true)(hs:Ef (nm.headD 0)=true){r:LB}(hr:Sep r):Az (nm++r)=(Az r).map (W nm :: ·):=by
 obtain⟨c,t,rfl⟩:∃ c t,nm=c::t:=by
  cases nm with
  | nil=>exact absurd hs dC
  | cons c t=>exact⟨c,t,rfl⟩
 have hs:Ef c=true:=hs;have e:Cy (c::(t++r))=c::t:=Lf hr hb
 have ht:tok (c::(t++r))= .ok (6,c::t,0,(c::t).length):=by
  rw[tok,if_pos hs,e,h];rfl
 rw[Lp',Ct (P5 hs) ht,← Lp',List.drop_left];rfl
theorem Zz{nm:LB}(h:Eg nm=true){r:LB}(hr:Sep r):Az (nm++r)=(Az r).map ((2,nm,0):: ·):=by
 obtain⟨c,t,rfl,hs,hb⟩:=Qa h;have e:Cy (c::(t++r))=c::t:=Lf hr hb
 have ht:tok (c::(t++r))= .ok (2,c::t,0,(c::t).length):=by
  rw[tok,if_neg (by rw[Yi hs];decide),if_pos hs,e]
 rw[Lp',Ct (W6 hs) ht,← Lp',List.drop_left]
theorem Xj{nm:LB}(h:Eg nm=true){r:LB}(hr:Sep r):Az (35::(nm++r))=(Az r).map ((3,nm,0):: ·):=by
 obtain⟨c,t,rfl,hs,hb⟩:=Qa h;have e:Cy (c::t++r)=c::t:=Lf hr hb
 have ht:tok (35::(c::t++r))= .ok (3,c::t,0,1+(c::t).length):=by
  rw[tok,if_neg dC,if_neg dC,if_pos ⟨rfl,by rw[Lp'];simpa using hs⟩,e]
 rw[Ct rF ht,Nat.add_comm 1,List.drop_succ_cons,List.drop_left]
theorem Tp:∀ m n:Nat,n≤m→(Lib.decDigits n).all De=true∧Gu 0 (Lib.decDigits n)=n∧Lib.decDigits n≠[]∧(1≤n→(Lib.decDigits n).head?≠some 48)∧(n<10→(Lib.decDigits n).length=1):=by
 intro m
 induction m with
 | zero =>
  intro n hn;have:n=0:=by omega
  subst this;rw[Lib.decDigits,dif_pos oM]
  exact⟨dC,dC,dC,fun h=>absurd h dC,fun _=>rfl⟩
 | succ m ih =>
  intro n hn;rw[Lib.decDigits];by_cases h:n<10
  ·rw[dif_pos h];have hx:(UInt8.ofNat (48+n)).toNat=48+n:=by rw[UInt8.toNat_ofNat'];omega
   refine⟨?_,?_,sM,?_,fun _=>rfl⟩
   ·rw[List.all_cons,List.all_nil,Bool.and_true,Hn,hx];omega
   ·show 0 * 10+((UInt8.ofNat (48+n)).toNat-48)=n;rw[hx];omega
   ·intro h1 h2;simp only[List.head?_cons,Option.some.injEq] at h2;have:=congrArg UInt8.toNat h2;rw[hx] at this;have h9:(48:UInt8).toNat=48:=rfl;omega
  ·rw[dif_neg h];obtain⟨i1,i2,i3,i4,_⟩:=ih (n / 10) oM;have hx:(UInt8.ofNat (48+n % 10)).toNat=48+n % 10:=by rw[UInt8.toNat_ofNat'];omega
   refine⟨?_,?_,sM,?_,fun h2=>absurd h2 h⟩
   ·rw[List.all_append,i1,List.all_cons,List.all_nil,Bool.and_true,Bool.true_and,Hn,hx];omega
   ·rw[Sz,i2,hx];omega
   ·intro _ h2;rw[List.head?_append] at h2
    cases hd:Lib.decDigits (n / 10)with
    | nil=>exact i3 hd
    | cons y r =>
     have:=i4 oM;rw[hd] at this h2;simp at this h2;exact this h2
theorem Xd{n:Int}(h:0≤n):Lib.itoa n=Lib.decDigits n.toNat:=by unfold Lib.itoa;rw[if_neg oM]
theorem itoa_num{n:Int}(h:0≤n):Gx (Lib.itoa n)=true∧(Gu 0 (Lib.itoa n):Int)=n:=by
 rw[Xd h];obtain⟨i1,i2,i3,i4,i5⟩:=Tp n.toNat n.toNat (Nr' _);refine⟨?_,by rw[i2];omega⟩;unfold Gx;rw[i1];have e:(Lib.decDigits n.toNat).isEmpty=false:=by simpa using i3
 rw[e];by_cases h0:1≤n.toNat
 ·have:((Lib.decDigits n.toNat).head?==some 48)=false:=by rw[bN];exact i4 h0
  rw[this];rfl
 ·have:=i5 oM;rw[this];simp
theorem read_itoa{n:Int}(h:0≤n)(h1:n≤4611686018427387903):Dy (Lib.itoa n)=n∧Ft (Lib.itoa n)=0:=by
 obtain⟨e1,e2⟩:=itoa_num h;unfold Dy Ft;rw[e1,if_pos ⟨rfl,oM⟩,if_pos rfl,if_pos oM];exact⟨e2,rfl⟩
theorem Xc(n:Int)(h0:0≤n):(Lib.itoa n).all De=true∧Lib.itoa n≠[]:=by
 rw[Xd h0];obtain⟨i1,_,i3,_⟩:=Tp n.toNat n.toNat (Nr' _);exact⟨i1,i3⟩
theorem readE_itoa(n:Int)(h0:0≤n)(h1:n≤Ff):Ft (Lib.itoa n)=0∧Dy (Lib.itoa n)=n:=by
 obtain⟨a,b⟩:=read_itoa h0 h1;exact⟨b,a⟩
theorem lexS_int{n:Int}(h0:0≤n)(h1:n≤Ff){r:LB}(hr:Sep r):Az (Lib.itoa n++r)=(Az r).map ((4,[],n):: ·):=by
 obtain⟨hd,hne⟩:=Xc n h0;obtain⟨e0,e1⟩:=readE_itoa n h0 h1
 generalize Lib.itoa n=l at *
 obtain⟨c,t,rfl⟩:∃ c t,l=c::t:=by
  cases l with
  | nil=>exact absurd rfl hne
  | cons c t=>exact⟨c,t,rfl⟩
 have hc:De c=true:=by rw[List.all_cons,Ba'] at hd;exact hd.1
 have hb:(c::t).all Dh=true:=List.all_eq_true.2 fun x hx=>Wn (List.all_eq_true.1 hd x hx)
 have e:Cy (c::(t++r))=c::t:=Lf hr hb;obtain⟨d1,d2,d3⟩:=small_dig hc
 have ht:tok (c::(t++r))= .ok (4,[],n,(c::t).length):=by
  rw[tok,if_neg (by rw[d1];decide),if_neg (by rw[d2];decide),if_neg (fun x=>d3 x.1),if_pos hc,e,if_pos e0,e1]
 rw[Lp',Ct (dig_blank hc) ht,← Lp',List.drop_left]
theorem hexD_ne(n:Nat)(h:n<16):Kz n≠92∧Kz n≠34:=by
 have:∀ n,n<16→Kz n≠92∧Kz n≠34:=by decide
 exact this n h
theorem qlen_quo(c:UInt8)(r:LB):Hx (quo c++r)=(Hx r).map (·+(quo c).length):=by
 unfold quo;split
 ·rw[show [92,34]++r=92::34::r from rfl,Mk];rfl
 ·rename_i h34
  split
  ·rw[show [92,92]++r=92::92::r from rfl,Mk];rfl
  ·rename_i h92
   split
   ·rw[show [92,110]++r=92::110::r from rfl,Mk];rfl
   ·split
    ·rw[show [c]++r=c::r from rfl,Lz c r h92 h34];rfl
    ·have hc:c.toNat<256:=c.toNat_lt;obtain⟨a1,a2⟩:=hexD_ne (c.toNat / 16) oM;obtain⟨b1,b2⟩:=hexD_ne (c.toNat % 16) oM;rw[show [92,120,Kz (c.toNat / 16),Kz (c.toNat % 16)]++r=92::120::Kz (c.toNat / 16)::Kz (c.toNat % 16)::r from rfl,Mk,Lz _ _ a1 a2,Lz _ _ b1 b2];cases Hx r <;> rfl
theorem qlen_quote(s r:LB):Hx (C9 s++34::r)=some ((C9 s).length+1):=by
 induction s with
 | nil=>exact X2 r
 | cons c s ih =>
  have e:C9 (c::s)=quo c++C9 s:=by simp[C9]
  rw[e,Ls',qlen_quo,ih,Option.map_some,La']
  congr 1
  omega
theorem lexS_str(s r:LB):Az (Dr s++r)=(Az r).map ((5,s,0):: ·):=by
 have e:Dr s++r=34::(C9 s++34::r):=by simp[Dr]
 have et:(34::(C9 s++34::r)).take (1+((C9 s).length+1))=Dr s:=by
  rw[Nat.add_comm 1,List.take_succ_cons]
  have:(C9 s++34::r).take ((C9 s).length+1)=C9 s++[34]:=by
   rw[List.take_length_add_append];rfl
  rw[this];rfl
 have ht:tok (34::(C9 s++34::r))= .ok (5,s,0,1+((C9 s).length+1)):=by
  rw[tok,if_neg dC,if_neg dC,if_neg (fun x=>absurd x.1 dC),if_neg dC,if_pos rfl,qlen_quote];simp only[et,Ur]
 rw[e,Ct rF ht,Nat.add_comm 1,List.drop_succ_cons,← List.drop_drop,List.drop_left];rfl
theorem Fd(r:LB):Az (40::r)=(Az r).map (G [40] :: ·):=Ct rF (show tok (40::r)= .ok (7,[40],0,1) by rfl)
theorem Fe(r:LB):Az (41::r)=(Az r).map (G [41] :: ·):=Ct rF (show tok (41::r)= .ok (7,[41],0,1) by rfl)
theorem Xh(r:LB):Az (123::r)=(Az r).map (G [123] :: ·):=Ct rF (show tok (123::r)= .ok (7,[123],0,1) by rfl)
theorem Xi(r:LB):Az (125::r)=(Az r).map (G [125] :: ·):=Ct rF (show tok (125::r)= .ok (7,[125],0,1) by rfl)
theorem Oj(r:LB):Az (61::r)=(Az r).map (G [61] :: ·):=Ct rF (show tok (61::r)= .ok (7,[61],0,1) by rfl)
theorem lexG_59(r:LB):Az (59::r)=(Az r).map (G [59] :: ·):=Ct rF (show tok (59::r)= .ok (7,[59],0,1) by rfl)
theorem lexG_44(r:LB):Az (44::r)=(Az r).map (G [44] :: ·):=Ct rF (show tok (44::r)= .ok (7,[44],0,1) by rfl)
theorem lexG_46(r:LB):Az (46::r)=(Az r).map (G [46] :: ·):=Ct rF (show tok (46::r)= .ok (7,[46],0,1) by rfl)
theorem lexG_43(r:LB):Az (43::r)=(Az r).map (G [43] :: ·):=Ct rF (show tok (43::r)= .ok (7,[43],0,1) by rfl)
theorem lexG_42(r:LB):Az (42::r)=(Az r).map (G [42] :: ·):=Ct rF (show tok (42::r)= .ok (7,[42],0,1) by rfl)
theorem lexG_47(r:LB):Az (47::r)=(Az r).map (G [47] :: ·):=Ct rF (show tok (47::r)= .ok (7,[47],0,1) by rfl)
theorem lexG_37(r:LB):Az (37::r)=(Az r).map (G [37] :: ·):=Ct rF (show tok (37::r)= .ok (7,[37],0,1) by rfl)
theorem lexG_60(r:LB):Az (60::r)=(Az r).map (G [60] :: ·):=Ct rF (show tok (60::r)= .ok (7,[60],0,1) by rfl)
theorem lexG_33(r:LB):Az (33::r)=(Az r).map (G [33] :: ·):=Ct rF (show tok (33::r)= .ok (7,[33],0,1) by rfl)
theorem N0(r:LB):Az (45::62::r)=(Az r).map (G [45,62] :: ·):=Ct rF (show tok (45::62::r)= .ok (7,[45,62],0,2) by rfl)
theorem Zx(r:LB):Az (58::61::r)=(Az r).map (G [58,61] :: ·):=Ct rF (show tok (58::61::r)= .ok (7,[58,61],0,2) by rfl)
theorem Zw(r:LB):Az (38::38::r)=(Az r).map (G [38,38] :: ·):=Ct rF (show tok (38::38::r)= .ok (7,[38,38],0,2) by rfl)
theorem Vd(r:LB):Az (124::124::r)=(Az r).map (G [124,124] :: ·):=Ct rF (show tok (124::124::r)= .ok (7,[124,124],0,2) by rfl)
theorem Ve(c:UInt8)(h:c≠62)(r:LB):Az (45::c::r)=(Az (c::r)).map (G [45] :: ·):=by
 have ht:tok (45::c::r)= .ok (7,[45],0,1):=by
  rw[tok,if_neg dC,if_neg dC,if_neg (fun x=>absurd x.1 dC),if_neg dC,if_neg dC]
  have:B3.find? (fun x=>x.isPrefixOf (45::c::r))=some [45]:=by
   have h2:(62==c)=false:=bN.2 (fun e=>h e.symm);simp[B3,List.find?_cons,List.isPrefixOf,h2]
  rw[this];rfl
 exact Ct rF ht
theorem lexG_124(c:UInt8)(h:c≠124)(r:LB):Az (124::c::r)=(Az (c::r)).map (G [124] :: ·):=by
 have ht:tok (124::c::r)= .ok (7,[124],0,1):=by
  rw[tok,if_neg dC,if_neg dC,if_neg (fun x=>absurd x.1 dC),if_neg dC,if_neg dC]
  have:B3.find? (fun x=>x.isPrefixOf (124::c::r))=some [124]:=by
   have h2:(124==c)=false:=bN.2 (fun e=>h e.symm);simp[B3,List.find?_cons,List.isPrefixOf,h2]
  rw[this];rfl
 exact Ct rF ht
section
attribute [local go_sem ↓] Go.wp_at_zero Go.wp_at_succ
def TOk(B:Nat)(A:Option Addr)(b:Nat):Prop:=B≤b∧∀ a,A=some a→a.block≠b
def Wd(w0:World)(P:Nat)(A:Option Addr)(w:World)(X:At)(S':Sc)(e:Ending)(w':World):Prop :=
 ∃ k a v n s A5 n5 c5 A6 n6 c6 A7 n7 c7 A' c',e = .returned (.agg #[vI k,vI a,vI v,vI n,.string ⟨s⟩,.slice A5 n5 c5,.slice A6 n6 c6,.slice A7 n7 c7])∧
  Au w' (TOk w.heap.size A') X [vI k,vI a,vI v,vI n,.string ⟨s⟩,.slice A5 n5 c5,.slice A6 n6 c6,.slice A7 n7 c7]∧Stp w0 P A w S' A' c' w'
def TMC(N:Nat):Prop:=∀ (k a:Int)(nm:LB)(n:Int)(s:LB)(ls:List LB)(args:List Ad)(arms:List (Al×Ad))(A5 A6 A7:Option Addr)(c5 c6 c7:Nat)(w0 w:World)(ok:Nat→Prop)(P:Nat)(S:Sc)(A:Option Addr)(c:Nat),
 szE (.mk k a nm n s ls args arms)<N→Bh (.mk k a nm n s ls args arms)=true→WlE (.mk k a nm n s ls args arms)→Ak w0 ok (.mk k a nm n s ls args arms) [vI k,vI a,vS nm,vI n,vS s,.slice A5 ls.length c5,.slice A6 args.length c6,.slice A7 arms.length c7] →
 Dg w0 P S A c w→SB S (szE (.mk k a nm n s ls args arms))→
  Calls prog 20 #[.pointer (some ⟨P,0,none⟩),.agg #[vI k,vI a,vS nm,vI n,vS s,.slice A5 ls.length c5,.slice A6 args.length c6,.slice A7 arms.length c7]] w (Wd w0 P A w (tmE (.mk k a nm n s ls args arms) S).1 (tmE (.mk k a nm n s ls args arms) S).2)
theorem Wd.before{w0:World}{P:Nat}{A:Option Addr}{v w:World}{X:At}{S':Sc}{e:Ending}{w':World}(hf:Fr [] v w)(h:Wd w0 P A w X S' e w'):Wd w0 P A v X S' e w':=by
 obtain⟨k,a,vv,n,s,A5,n5,c5,A6,n6,c6,A7,n7,c7,A',c',e1,h1,h2⟩:=h;exact⟨k,a,vv,n,s,A5,n5,c5,A6,n6,c6,A7,n7,c7,A',c',e1,h1.keep (fun b hb hlt=>⟨⟨Nat.le_trans hf.size hb.1,hb.2⟩,rfl,hlt⟩),Stp.before hf h2⟩
theorem Stp.fresh{w0:World}{P:Nat}{A A':Option Addr}{S':Sc}{c':Nat}{w w' w'':World}{L:List Nat}(h:Stp w0 P A w S' A' c' w')(hf:Fr L w' w'')(hP:P ∉ L)(hA:∀ a,A'=some a→a.block ∉ L)(hw:w0.heap.size≤w.heap.size)(hL:∀ x ∈ L,w.heap.size≤x):Stp w0 P A w S' A' c' w'' :=
 ⟨h.1.frL hf hP hA (fun x hx=>Nat.le_trans hw (hL x hx)),h.2.1.step hf (fun x hx => .inr (hL x hx)),h.2.2⟩
theorem Stp.apart{w0:World}{P:Nat}{A A':Option Addr}{S':Sc}{c':Nat}{v w':World}(h:Stp w0 P A v S' A' c' w'){k:Nat}(hA:∀ a,A=some a→a.block≠k)(hk:k<v.heap.size):∀ a,A'=some a→a.block≠k:=fun a e=>by
 rcases h.2.2 a e with h1|h1
 ·exact hA a h1
 ·omega
theorem Dg.cut{w0 w:World}{P:Nat}{S:Sc}{A:Option Addr}{c:Nat}(h:Dg w0 P S A c w)(m:Nat)(hm:m≤S.l.length):Stp w0 P A w (S.cut m) A c (w.setCell ⟨P,0,none⟩ (.slice A m c)):=by
 have hl:(S.l.take m).length=m:=by rw[List.length_take];omega
 have:=h.names (S.l.take m) (A':=A) (c':=c) (Fr.refl _ w) rfl (by rw[hl,Zc];exact P0 h.row hm) (fun a e => .inl e);rw[hl] at this;exact this
theorem Dg.cap{w0 w:World}{P:Nat}{S:Sc}{A:Option Addr}{c:Nat}(h:Dg w0 P S A c w):S.l.length≤c:=by
 exact qq303
abbrev Dj:Obj:=.cells #[vI 0,vI 0,vI 0,vI 0,vE,vZ,vZ,vZ] 34
theorem Jc(N:Nat)(ih:TMC N)(k a:Int)(nm:LB)(n:Int)(s:LB)(ls:List LB)(args:List Ad)(arms:List (Al×Ad))(A5 A6 A7:Option Addr)(c5 c6 c7:Nat)(w0 w:World)(ok:Nat→Prop)(P:Nat)(S:Sc)(A:Option Addr)(c m:Nat)
  (hN:szE (.mk k a nm n s ls args arms)<N) (hm:Bh (.mk k a nm n s ls args arms)=true) (hw:WlE (.mk k a nm n s ls args arms)) (hx:Ak w0 ok (.mk k a nm n s ls args arms) [vI k,vI a,vS nm,vI n,vS s,.slice A5 ls.length c5,.slice A6 args.length c6,.slice A7 arms.length c7])
  (h:Dg w0 P S A c w) (hb:SB S (szE (.mk k a nm n s ls args arms))) (hml:m≤S.l.length):
  Calls prog 40 #[.pointer (some ⟨P,0,none⟩),.agg #[vI k,vI a,vS nm,vI n,vS s,.slice A5 ls.length c5,.slice A6 args.length c6,.slice A7 arms.length c7],vI m] w (Wd w0 P A w (tmE (.mk k a nm n s ls args arms) S).1 ((tmE (.mk k a nm n s ls args arms) S).2.cut m)):=by
 have hl:=P8 (.mk k a nm n s ls args arms) S;have cT:=fun W hW=>Hz (ih k a nm n s ls args arms A5 A6 A7 c5 c6 c7 w0 W ok P S A c hN hm hw hx hW hb)
 have hb3:=hb.2.2
 generalize (tmE (.mk k a nm n s ls args arms) S).1=X at *
 generalize (tmE (.mk k a nm n s ls args arms) S).2=S2 at *
 have HL:Hid (S2.l=S.l):=Hz hl;have HM:=Hz hml;have HW:=Hz h;have hP:=h.lt;clear hl ih hN hm hw hx hb h;go_enter func40,ntmps40;go_wp2_with fail
 have f0:=(((Fr.refl [] w).alloc (.cells #[vI k,vI a,vS nm,vI n,vS s,.slice A5 ls.length c5,.slice A6 args.length c6,.slice A7 arms.length c7] 27)).alloc Dj)
 have q1:=Ag (w.alloc (.cells #[vI k,vI a,vS nm,vI n,vS s,.slice A5 ls.length c5,.slice A6 args.length c6,.slice A7 arms.length c7] 27)) Dj;rw[World.size_alloc] at q1
 generalize (w.alloc (.cells #[vI k,vI a,vS nm,vI n,vS s,.slice A5 ls.length c5,.slice A6 args.length c6,.slice A7 arms.length c7] 27)).alloc Dj=w1 at *
 have h1:=HW.out.fr0 f0;have hown:=HW.out.own_lt
 generalize hB:w.heap.size+1=B at *
 have nP:¬ P=B:=by omega
 have nB:¬ B=P:=by omega
 have hB1:=Aa q1;refine(cT w1 h1).out.mono ?_;rintro e x1 ⟨k1,a1,v1,n1,s1,B5,n5,d5,B6,n6,d6,B7,n7,d7,A',c',rfl,hX,hst⟩;have HF0:=Hz f0
 have q2:=hst.2.1.keep q1 (fun hx=>by
  rcases Ay.1 hx with e|⟨a,e,e2⟩
  ·omega
  ·have:=hown a e;omega)
 have hBx:=Aa q2;have hPx:=hst.1.lt;obtain⟨r0,r1,r2,r3,t0,t1,t2,t3⟩:=hst.1.cells;obtain⟨⟨u0,u1,u2,u3,u4,u5,u6,u7⟩,z0,z1,z2,z3,z4,z5,z6,z7⟩:=Ac q2;have e1:¬ x1.heap.size=P:=by omega
 have e2:¬ P=x1.heap.size:=by omega
 have e3:¬ x1.heap.size=B:=by omega
 have e4:¬ B=x1.heap.size:=by omega
 have hcap:=hst.1.cap;have hlen:S2.l.length=S.l.length:=by rw[HL.out]
 have m1:(0:Int)≤(m:Int):=by omega
 have m2:(m:Int)≤(c':Int):=by omega
 have m3:m≤c':=by omega
 have HX:=Hz hX;have HST:=Hz hst;have HQ:=Hz q2;have HAP:Hid (∀ a,A'=some a→a.block≠B):=Hz (hst.apart (fun a e=>by have:=hown a e;omega) hB1);have HLE:=Hz HW.out.le;have HB:Hid (S2.l.length=S.l.length):=Hz hlen;clear cT hX hst q1 f0 h1 hown hb3 hml hlen hcap HW;go_wp2_with fail;have hc:=HST.out.1.cut m (by rw[HB.out];exact HM.out)
 generalize hy1:x1.setCell ⟨P,0,none⟩ (.slice A' m c')=y1 at *
 have g1:=hc.2.1.keep HQ.out (fun hx=>by
  rcases Ay.1 hx with e|⟨a,e,e2⟩
  ·omega
  ·exact HAP.out a e e2.symm)
 have hG:=Aq g1 (vI k1) (vI a1) (vI v1) (vI n1) (.string ⟨s1⟩) (.slice B5 n5 d5) (.slice B6 n6 d6) (.slice B7 n7 d7);have hF:=Aj y1 B (vI k1) (vI a1) (vI v1) (vI n1) (.string ⟨s1⟩) (.slice B5 n5 d5) (.slice B6 n6 d6) (.slice B7 n7 d7);have hS1:=(Stp.before HF0.out HST.out).trans hc;have hS2:=hS1.fresh hF (by simpa using nP) (fun a e=>by simpa using HAP.out a e) HLE.out (fun x hx=>by simp at hx;omega)
 have hT1:=HX.out.keep (w':=st8 y1 B (vI k1) (vI a1) (vI v1) (vI n1) (.string ⟨s1⟩) (.slice B5 n5 d5) (.slice B6 n6 d6) (.slice B7 n7 d7)) (ok':=TOk w.heap.size A') (fun b hb hlt=>by
  have hnb:b ∉ scL P A':=fun hx=>by
   rcases Ay.1 hx with e|⟨a,e,e2⟩
   ·have:=hb.1;omega
   ·exact hb.2 a e e2.symm
  have e5:=hc.2.1.block b hlt hnb
  have hs1:=hc.2.1.size
  have e6:=hF.block b oM (by have:=hb.1;simp;omega)
  refine⟨⟨by have:=hb.1;have:=HF0.out.size;omega,hb.2⟩,e6.trans e5,?_⟩
  have:=hF.size;omega)
 unfold st8 at hG hF hS2 hT1;generalize (((((((y1.setCell ⟨B,0,none⟩ (vI k1)).setCell ⟨B,1,none⟩ (vI a1)).setCell ⟨B,2,none⟩ (vI v1)).setCell ⟨B,3,none⟩ (vI n1)).setCell ⟨B,4,none⟩ (.string ⟨s1⟩)).setCell ⟨B,5,none⟩ (.slice B5 n5 d5)).setCell ⟨B,6,none⟩ (.slice B6 n6 d6)).setCell ⟨B,7,none⟩ (.slice B7 n7 d7)=Z at hG hF hS2 hT1 ⊢;have f9:=(Fr.refl [] Z).alloc (.cells #[vI k1,vI a1,vI v1,vI n1,.string ⟨s1⟩,.slice B5 n5 d5,.slice B6 n6 d6,.slice B7 n7 d7] 34);obtain⟨⟨d0,d1,d2,d3,d4,d5',d6',d7'⟩,_⟩:=Ac (f9.keep hG nE);refine bodyPost_ret (v:=.agg #[vI k1,vI a1,vI v1,vI n1,.string ⟨s1⟩,.slice B5 n5 d5,.slice B6 n6 d6,.slice B7 n7 d7]) ?_ rfl ?_
 ·simp[results,Tryz.f40,go_sem,d0,d1,d2,d3,d4,d5',d6',d7']
 ·exact⟨_,_,_,_,_,_,_,_,_,_,_,_,_,_,_,_,rfl,hT1.keep (fun b hb hlt=>⟨hb,f9.block b hlt (fun x=>by cases x),Nl' hlt f9.size⟩),hS2.fr0 f9⟩
theorem W9:(prog.info? 34).map (fun i=>(i.zero,i.size,i.bytes))=some (some (.agg #[vI 0,vI 0,vI 0,vI 0,vE,vZ,vZ,vZ]),8,120):=by kernel_rfl
def TsRes(w0:World)(P:Nat)(A:Option Addr)(w:World)(XS:List At)(S':Sc)(e:Ending)(w':World):Prop :=
 ∃ A9 c9 cs A' c',e = .returned (.slice A9 XS.length c9)∧J2 w' (TOk w.heap.size A') (.slice A9 XS.length c9) XS cs∧Stp w0 P A w S' A' c' w'
theorem Ge{w0:World}{P:Nat}{A A':Option Addr}{S S':Sc}{c c' B:Nat}{v w1 x1:World}{α:Type}{E:World→(Nat→Prop)→α→List Value→Prop}{T size:Nat}{V:Value}{xs:List α}{cs:Nat→List Value}(hK:Fy E)(hrow:An E T size v (TOk B A) V xs cs)
  (hs:Dg w0 P S A c v) (hPB:P<B) (hf:Fr [] v w1) (hst:Stp w0 P A w1 S' A' c' x1):An E T size x1 (TOk B A') V xs cs :=
 hrow.keep hK (fun b hb hlt=>by
  have hs1:=hf.size
  have hnb:b ∉ scL P A:=fun hx=>by
   rcases Ay.1 hx with e|⟨a,e,e2⟩
   ·have:=hb.1;omega
   ·exact hb.2 a e e2.symm
  refine⟨⟨hb.1,hst.apart hb.2 oM⟩,(hst.2.1.block b oM hnb).trans (hf.block b hlt (fun x=>by cases x)),?_⟩
  have:=hst.2.1.size
  omega)
theorem Yd{w0:World}{P:Nat}{A A2:Option Addr}{S3:Sc}{c2:Nat}{w w1 y2 w9:World}{α:Type}{E:World→(Nat→Prop)→α→List Value→Prop}{T size:Nat}{V V':Value}{xs:List α}{cs:Nat→List Value}{x:α}{C:List Value}(hK:Fy E)(hr:An E T size y2 (TOk w.heap.size A2) V xs cs)(hl:C.length=size)
  (hx:E y2 (TOk w1.heap.size A2) x C) (hw:w.heap.size≤w1.heap.size) (hV:∀ g,V.ownBlock=some g→g<w1.heap.size) (hPw:P<w.heap.size) (h0:w0.heap.size≤w.heap.size) (hst:Stp w0 P A w S3 A2 c2 y2)
  (hown:w9.ownsRow 0 T size V' (xs.length+1) (Co cs xs.length++C)) (hgrow:y2.grownBy w9 V.ownBlock) (hfp:Qb V V' y2.heap.size):
  An E T size w9 (TOk w.heap.size A2) V' (xs++[x]) (fun i=>if i=xs.length then C else cs i)∧Stp w0 P A w S3 A2 c2 w9:=by
 refine⟨hr.app hK hx hl (fun b hb hlt=>⟨⟨Nat.le_trans hw hb.1,hb.2⟩,fun e=>?_⟩) hown hgrow hfp (fun b hb=>⟨?_,fun a e h=>?_⟩),?_⟩
 ·have:=hV b e;have:=hb.1;omega
 ·have:=hst.2.1.size;omega
 ·have:=hst.1.own_lt a e;omega
 ·have hf:Fr V.ownBlock.toList y2 w9:=(Fr.refl V.ownBlock.toList y2).grown hgrow (fun k e => .inl (by rw[e];simp));refine hst.fresh hf (fun h=>?_) (fun a e h=>?_) h0 (fun x h=>?_)
  ·simp only[Option.mem_toList] at h;have:=(hr.blk P h).1;omega
  ·simp only[Option.mem_toList] at h;exact(hr.blk _ h).2 a e rfl
  ·simp only[Option.mem_toList] at h;exact(hr.blk _ h).1
theorem Ke(N:Nat)(ih:TMC N)(l:List Ad)(A6:Option Addr)(c6:Nat)(d6:Nat→List Value)(w0 w:World)(ok:Nat→Prop)(P:Nat)(S:Sc)(A:Option Addr)(c:Nat)
  (hN:Bk l<N) (hm:∀ (i:Nat) (x:Ad),l[i]?=some x→Bh x=true) (hw:∀ (i:Nat) (x:Ad),l[i]?=some x→WlE x) (h6:En w0 ok (.slice A6 l.length c6) l.length 8 d6) (e6:∀ (i:Nat) (x:Ad),l[i]?=some x→Ak w0 ok x (d6 i))
  (h:Dg w0 P S A c w) (hb:SB S (Bk l)) (hl:l.length≤1099511627775):
  Calls prog 41 #[.pointer (some ⟨P,0,none⟩),.slice A6 l.length c6] w (TsRes w0 P A w (Bf l none S).1 (Bf l none S).2.2):=by
 have IH:=Hz ih;have HN:=Hz hN;have HM:Hid (∀ (i:Nat) (x:Ad),l[i]?=some x→Bh x=true):=Hz hm;have HW:Hid (∀ (i:Nat) (x:Ad),l[i]?=some x→WlE x):=Hz hw;have H6:=Hz h6;have E6:Hid (∀ (i:Nat) (x:Ad),l[i]?=some x→Ak w0 ok x (d6 i)):=Hz e6;have H:=Hz h;have HB:=Hz hb;have HP:=Hz h.lt;obtain⟨i0,hi,hz0,hz1,hz2⟩:=info_parts W9;have HI:=Hz hi;have HZ0:=Hz hz0;have HZ1:=Hz hz1;have HZ2:=Hz hz2;clear ih hN hm hw h6 e6 h hb hi hz0 hz1 hz2;go_enter func41,ntmps41;go_wp2_with fail
 go_loopw [5,10] (fun ov iv wr=>∃ (i:Nat) (A9:Option Addr) (c9:Nat) (cs:Nat→List Value) (A':Option Addr) (c':Nat),ov = .slice A9 i c9∧iv=vI i∧i≤l.length∧Hid (J2 wr (TOk w.heap.size A') (.slice A9 i c9) (Bf (l.take i) none S).1 cs)∧Hid (Stp w0 P A w (Bf (l.take i) none S).2.2 A' c' wr)) (fun ov iv wr=>l.length-(intOf iv).toNat)
 case atStart=>exact⟨0,none,0,fun _=>[],A,c,rfl,rfl,oM,Hz An.nil_,Hz (Stp.refl H.out)⟩
 case round =>
  obtain⟨i,A9,c9,cs,A',c',rfl,rfl,hi,HR,HS⟩:=hrel;have q1:(0:Int)≤(i:Int):=by omega
  by_cases hlt:i<l.length
  ·obtain⟨y,hy⟩:∃ y,l[i]?=some y:=⟨l[i],Lg' hlt⟩
   have q2:(i:Int)<(l.length:Int):=by omega
   obtain⟨g,o,rfl,hg,hc⟩:=H6.out.elem HS.out.1.fr hlt;have hmy:=HM.out i y hy;have hwy:=HW.out i y hy;have hsz:=szEs_take hy;have htk:=tmEs_take hy S;have hlen:(Bf (l.take i) none S).1.length=i:=by rw[Hv,List.length_take];omega
   have hgr:=Hg (l.take i) none S;obtain⟨k2,a2,nm2,n2,s2,ls2,args2,arms2,A52,c52,A62,c62,A72,c72,rfl,hx2,x0,x1,x2,x3,x4,x5,x6,x7⟩:=(E6.out i y hy).told hc;have hSB:SB (Bf (l.take i) none S).2.2 (szE (.mk k2 a2 nm2 n2 s2 ls2 args2 arms2)):=SB.step (HB.out.mono (by simp at hsz ⊢;omega)) hgr
   generalize hXS:(Bf (l.take i) none S).1=XS at *
   generalize hSS:(Bf (l.take i) none S).2.2=SS at *
   have HTK:=Hz htk;have f1:=(Fr.refl [] wr).alloc (.cells #[vI k2,vI a2,vS nm2,vI n2,vS s2,.slice A52 ls2.length c52,.slice A62 args2.length c62,.slice A72 arms2.length c72] 27);have cT:=Hz (IH.out k2 a2 nm2 n2 s2 ls2 args2 arms2 A52 A62 A72 c52 c62 c72 w0 (wr.alloc (.cells #[vI k2,vI a2,vS nm2,vI n2,vS s2,.slice A52 ls2.length c52,.slice A62 args2.length c62,.slice A72 arms2.length c72] 27)) ok P SS A' c' (by have:=HN.out;omega) hmy hwy hx2 (HS.out.1.fr0 f1) hSB);have HF1:=Hz f1;have HLEN:=Hz hlen;have HY:=Hz hy;clear hc hmy hwy hsz htk hlen hgr hx2 hSB hXS hSS f1 hy;go_wp2_with fail
   generalize wr.alloc (.cells #[vI k2,vI a2,vS nm2,vI n2,vS s2,.slice A52 ls2.length c52,.slice A62 args2.length c62,.slice A72 arms2.length c72] 27)=w1 at *
   generalize hX:(tmE (.mk k2 a2 nm2 n2 s2 ls2 args2 arms2) SS).1=X at *
   generalize hS3:(tmE (.mk k2 a2 nm2 n2 s2 ls2 args2 arms2) SS).2=S3 at *
   refine cT.out.mono ?_;rintro e y1 ⟨k1,a1,v1,n1,s1,B5,n5,d5,B6,n6,d6',B7,n7,d7,A2,c2,rfl,hT,hst⟩;have hrow:=Ge D9 HR.out HS.out.1 HP.out HF1.out hst;have HTM:=Hz hT;have HST:=Hz hst;have HROW:=Hz hrow;clear hT hst hrow cT x0 x1 x2 x3 x4 x5 x6 x7;have f2:=(Fr.refl [] y1).alloc (.cells #[vI k1,vI a1,vI v1,vI n1,.string ⟨s1⟩,.slice B5 n5 d5,.slice B6 n6 d6',.slice B7 n7 d7] 34);have q2':=Ag y1 (.cells #[vI k1,vI a1,vI v1,vI n1,.string ⟨s1⟩,.slice B5 n5 d5,.slice B6 n6 d6',.slice B7 n7 d7] 34)
   generalize hy2:y1.alloc (.cells #[vI k1,vI a1,vI v1,vI n1,.string ⟨s1⟩,.slice B5 n5 d5,.slice B6 n6 d6',.slice B7 n7 d7] 34)=y2 at *
   have hr2:J2 y2 (TOk w.heap.size A2) (.slice A9 i c9) XS cs:=HROW.out.keep D9 (fun b hb hlt=>⟨hb,f2.block b hlt (fun x=>by cases x),Nl' hlt f2.size⟩);have ht2:Au y2 (TOk w1.heap.size A2) X [vI k1,vI a1,vI v1,vI n1,.string ⟨s1⟩,.slice B5 n5 d5,.slice B6 n6 d6',.slice B7 n7 d7]:=HTM.out.keep (fun b hb hlt=>⟨hb,f2.block b hlt (fun x=>by cases x),Nl' hlt f2.size⟩);have hs2:=(HS.out.trans (Stp.before HF1.out HST.out)).fr0 f2;have hown:=hr2.own;rw[HLEN.out] at hown;have HOWN:=Hz hown;have HNEW:=Hz q2';have HR2:=Hz hr2;have HT2:=Hz ht2;have HS2:=Hz hs2;clear f2 q2' hr2 ht2 hs2 hown;subst hy2;go_wp2_with (at_builtin;refine D2 _ rfl _ _ 31 rfl 34 i0 _ 8 120 underlying31 HI.out HZ0.out HZ1.out HZ2.out rfl dC (.slice A9 i c9) i (Co cs i) rfl HOWN.out ⟨y1.heap.size,0,none⟩ 1 1 [vI k1,vI a1,vI v1,vI n1,.string ⟨s1⟩,.slice B5 n5 d5,.slice B6 n6 d6',.slice B7 n7 d7] rfl rfl (World.news_of_block HNEW.out) (by simp[Value.oneCell']) (by simp only[maxLen];omega) oM ?_;intro v9 w9 hown9 hgrow9 hfp9;obtain⟨g9,cp9,hv9⟩:=Cd hown9;subst hv9);have hlt9:=HR.out.own_lt;have hfin:=Yd D9 HR2.out rfl HT2.out (by have:=HF1.out.size;have:=HS.out.2.1.size;omega) (fun g hg=>by have:=hlt9 g hg;have:=HF1.out.size;omega) HP.out H.out.le HS2.out (by rw[HLEN.out];exact hown9) hgrow9 hfp9;rw[← HTK.out.1,← HTK.out.2] at hfin;have HFIN:=Hz hfin;clear hfin hlt9 hown9 hgrow9 hfp9
   go_roundw
   case rel=>exact⟨i+1,_,_,_,A2,c2,rfl,by go_num,oM,Hz HFIN.out.1,Hz HFIN.out.2⟩
   case measure=>simp[intOf];omega
  ·have q2:¬ (i:Int)<(l.length:Int):=by omega
   have hil:i=l.length:=by omega
   subst hil;rw[List.take_length] at HR HS;have hlen:(Bf l none S).1.length=l.length:=Hv l none S;exact qq292
def PRes(w0:World)(P:Nat)(A:Option Addr)(w:World)(X:Bp)(S':Sc)(e:Ending)(w':World):Prop :=
 ∃ k v n s A4 n4 c4 A5 n5 c5 A' c',e = .returned (.agg #[vI k,vI v,vI n,.string ⟨s⟩,.slice A4 n4 c4,.slice A5 n5 c5])∧
  Cs w' (TOk w.heap.size A') X [vI k,vI v,vI n,.string ⟨s⟩,.slice A4 n4 c4,.slice A5 n5 c5]∧Stp w0 P A w S' A' c' w'
def TPC(N:Nat):Prop:=∀ (k a:Int)(nm:LB)(n:Int)(s:LB)(ls:List LB)(args:List Al)(A5 A6:Option Addr)(c5 c6:Nat)(w0 w:World)(ok:Nat→Prop)(P:Nat)(S:Sc)(A:Option Addr)(c m:Nat),
 szP (.mk k a nm n s ls args)<N→WlP (.mk k a nm n s ls args)→Bw w0 ok (.mk k a nm n s ls args) [vI k,vI a,vS nm,vI n,vS s,.slice A5 ls.length c5,.slice A6 args.length c6] →
 Dg w0 P S A c w→SB S (szP (.mk k a nm n s ls args))→m≤S.l.length →
  Calls prog 94 #[.pointer (some ⟨P,0,none⟩),.agg #[vI k,vI a,vS nm,vI n,vS s,.slice A5 ls.length c5,.slice A6 args.length c6],vI m] w (PRes w0 P A w (tmP (.mk k a nm n s ls args) m S).1 (tmP (.mk k a nm n s ls args) m S).2)
def TPCk(N:Nat)(k:Int):Prop:=∀ (a:Int)(nm:LB)(n:Int)(s:LB)(ls:List LB)(args:List Al)(A5 A6:Option Addr)(c5 c6:Nat)(w0 w:World)(ok:Nat→Prop)(P:Nat)(S:Sc)(A:Option Addr)(c m:Nat),
 szP (.mk k a nm n s ls args)<N→WlP (.mk k a nm n s ls args)→Bw w0 ok (.mk k a nm n s ls args) [vI k,vI a,vS nm,vI n,vS s,.slice A5 ls.length c5,.slice A6 args.length c6] →
 Dg w0 P S A c w→SB S (szP (.mk k a nm n s ls args))→m≤S.l.length →
  Calls prog 94 #[.pointer (some ⟨P,0,none⟩),.agg #[vI k,vI a,vS nm,vI n,vS s,.slice A5 ls.length c5,.slice A6 args.length c6],vI m] w (PRes w0 P A w (tmP (.mk k a nm n s ls args) m S).1 (tmP (.mk k a nm n s ls args) m S).2)
def TPC2(N:Nat)(k:Int)(Q:Sc→Nat→Nat→List UInt8→Prop):Prop:=∀ (a:Int)(nm:LB)(n:Int)(s:LB)(ls:List LB)(args:List Al)(A5 A6:Option Addr)(c5 c6:Nat)(w0 w:World)(ok:Nat→Prop)(P:Nat)(S:Sc)(A:Option Addr)(c m:Nat),
 szP (.mk k a nm n s ls args)<N→WlP (.mk k a nm n s ls args)→Bw w0 ok (.mk k a nm n s ls args) [vI k,vI a,vS nm,vI n,vS s,.slice A5 ls.length c5,.slice A6 args.length c6] →
 Dg w0 P S A c w→SB S (szP (.mk k a nm n s ls args))→m≤S.l.length→Q S c m nm →
  Calls prog 94 #[.pointer (some ⟨P,0,none⟩),.agg #[vI k,vI a,vS nm,vI n,vS s,.slice A5 ls.length c5,.slice A6 args.length c6],vI m] w (PRes w0 P A w (tmP (.mk k a nm n s ls args) m S).1 (tmP (.mk k a nm n s ls args) m S).2)
theorem Bl{x:World}{B:Nat}{T:TypeId}{a0 a1 a2 a3 a4 a5:Value}(h:x.heap[B]?=some (.cells #[a0,a1,a2,a3,a4,a5] T (0,0))):
  (x.cell? ⟨B,0,none⟩=some a0∧x.cell? ⟨B,1,none⟩=some a1∧x.cell? ⟨B,2,none⟩=some a2∧x.cell? ⟨B,3,none⟩=some a3∧x.cell? ⟨B,4,none⟩=some a4∧x.cell? ⟨B,5,none⟩=some a5)∧
  x.frozen? ⟨B,0,none⟩=false∧x.frozen? ⟨B,1,none⟩=false∧x.frozen? ⟨B,2,none⟩=false∧x.frozen? ⟨B,3,none⟩=false∧x.frozen? ⟨B,4,none⟩=false∧x.frozen? ⟨B,5,none⟩=false :=
 ⟨⟨Ab h 0,Ab h 1,Ab h 2,Ab h 3,Ab h 4,Ab h 5⟩,Ap h 0,Ap h 1,Ap h 2,Ap h 3,Ap h 4,Ap h 5⟩
abbrev Ep:Obj:=.cells #[vI 0,vI 0,vI 0,vE,vZ,vZ] 76
abbrev Lw (w:World)(p r t:Obj):World:=((w.alloc p).alloc r).alloc t
theorem Gy(w:World)(p r t:Obj):(Lw w p r t).heap[w.heap.size]?=some p∧(Lw w p r t).heap[w.heap.size+1]?=some r∧(Lw w p r t).heap[w.heap.size+1+1]?=some t∧Fr [] w (Lw w p r t)∧(Lw w p r t).heap.size=w.heap.size+3:=by
 have n1:=Ag w p;have n2:=Ag (w.alloc p) r;have n3:=Ag ((w.alloc p).alloc r) t;simp only[World.size_alloc] at n2 n3;refine⟨Ae (Ae n1 _) _,Ae n2 _,n3,(((Fr.refl [] w).alloc p).alloc r).alloc t,by simp[Lw,World.size_alloc]⟩
theorem Yf{x:World}{B:Nat}{T:TypeId}{o0 o1 o2 o3 o4 o5:Value}(h:x.heap[B]?=some (.cells #[o0,o1,o2,o3,o4,o5] T (0,0)))(a0 a1 a2 a3 a4 a5:Value):((((((x.setCell ⟨B,0,none⟩ a0).setCell ⟨B,1,none⟩ a1).setCell ⟨B,2,none⟩ a2).setCell ⟨B,3,none⟩ a3).setCell ⟨B,4,none⟩ a4).setCell ⟨B,5,none⟩ a5).heap[B]?=some (.cells #[a0,a1,a2,a3,a4,a5] T (0,0)):=by
 exact qq272
theorem Km(x:World)(B:Nat)(a0 a1 a2 a3 a4 a5:Value):Fr [B] x ((((((x.setCell ⟨B,0,none⟩ a0).setCell ⟨B,1,none⟩ a1).setCell ⟨B,2,none⟩ a2).setCell ⟨B,3,none⟩ a3).setCell ⟨B,4,none⟩ a4).setCell ⟨B,5,none⟩ a5):=
 ((((((Fr.refl [B] x).setCell (p:=⟨B,0,none⟩) (.inl sM) a0).setCell (p:=⟨B,1,none⟩) (.inl sM) a1).setCell (p:=⟨B,2,none⟩) (.inl sM) a2).setCell (p:=⟨B,3,none⟩) (.inl sM) a3).setCell (p:=⟨B,4,none⟩) (.inl sM) a4).setCell (p:=⟨B,5,none⟩) (.inl sM) a5
def LOk(B X:Nat)(A:Option Addr)(b:Nat):Prop:=TOk B A b∧b<X
def Mc(w0:World)(P:Nat)(A:Option Addr)(w:World)(S:Sc)(k a:Int)(nm:LB)(n:Int)(s:LB)(ls:List LB)(args:List Al)(m:Nat)(x5:World):Prop :=
 ∃ (V:Int) (sx:LB) (lsx:List LB) (A4:Option Addr) (c4:Nat) (cs4:Nat→List Value) (SP:Sc) (A1:Option Addr) (c1:Nat),
  tmP (.mk k a nm n s ls args) m S=(.mk k V n sx lsx (Bt args m SP).1,(Bt args m SP).2)∧x5.heap[w.heap.size+1]?=some Ep ∧
  x5.heap[w.heap.size+1+1]?=some (.cells #[vI k,vI V,vI n,vS sx,.slice A4 lsx.length c4,vZ] 76 (0,0))∧
  Gp x5 (LOk (w.heap.size+3) x5.heap.size A1) (.slice A4 lsx.length c4) lsx cs4∧Stp w0 P A w SP A1 c1 x5∧SB SP (E2 args)∧m≤SP.l.length∧(∀ a,A1=some a→a.block<w.heap.size∨w.heap.size+3≤a.block)∧w.heap.size+3≤x5.heap.size
theorem I5:(prog.info? 76).map (fun i=>(i.zero,i.size,i.bytes))=some (some (.agg #[vI 0,vI 0,vI 0,vE,vZ,vZ]),6,88):=by kernel_rfl
theorem Hr{w0:World}{P B:Nat}{A A2:Option Addr}{S3:Sc}{c2:Nat}{w w1 y2 w9:World}{α:Type}{E:World→(Nat→Prop)→α→List Value→Prop}{T size:Nat}{V V':Value}{xs:List α}{cs:Nat→List Value}{x:α}{C:List Value}(hK:Fy E)(hr:An E T size y2 (TOk B A2) V xs cs)(hl:C.length=size)
  (hx:E y2 (TOk w1.heap.size A2) x C) (hw:B≤w1.heap.size) (hwB:w.heap.size≤B) (hy:B≤y2.heap.size) (hV:∀ g,V.ownBlock=some g→g<w1.heap.size) (hPw:P<w.heap.size) (h0:w0.heap.size≤w.heap.size) (hst:Stp w0 P A w S3 A2 c2 y2)
  (hown:w9.ownsRow 0 T size V' (xs.length+1) (Co cs xs.length++C)) (hgrow:y2.grownBy w9 V.ownBlock) (hfp:Qb V V' y2.heap.size):
  An E T size w9 (TOk B A2) V' (xs++[x]) (fun i=>if i=xs.length then C else cs i)∧Stp w0 P A w S3 A2 c2 w9:=by
 refine⟨hr.app hK hx hl (fun b hb hlt=>⟨⟨Nat.le_trans hw hb.1,hb.2⟩,fun e=>?_⟩) hown hgrow hfp (fun b hb=>⟨?_,fun a e h=>?_⟩),?_⟩
 ·have:=hV b e;have:=hb.1;omega
 ·omega
 ·have:=hst.1.own_lt a e;omega
 ·have hf:Fr V.ownBlock.toList y2 w9:=(Fr.refl V.ownBlock.toList y2).grown hgrow (fun k e => .inl (by rw[e];simp));refine hst.fresh hf (fun h=>?_) (fun a e h=>?_) h0 (fun x h=>?_)
  ·simp only[Option.mem_toList] at h;have:=(hr.blk P h).1;omega
  ·simp only[Option.mem_toList] at h;exact(hr.blk _ h).2 a e rfl
  ·simp only[Option.mem_toList] at h;have:=(hr.blk _ h).1;omega
theorem Gh{w:World}{ok:Nat→Prop}{α:Type}{E:World→(Nat→Prop)→α→List Value→Prop}{T size:Nat}{V:Value}{xs:List α}{cs:Nat→List Value}(hK:Fy E)(h:An E T size w ok V xs cs){i:Nat}(hi:xs.length=i)(O:Obj):(w.alloc O).ownsRow 0 T size V i (Co cs i):=by
 have:=Dv h.own ((Fr.refl [] w).alloc O) (fun _ _ x=>by cases x)
 rwa [hi] at this
end
theorem Uk(x:Al×Ad):∀ (l:List (Al×Ad))(S:Sc),(Eb (l++[x]) S).1=(Eb l S).1++[(tmA x (Eb l S).2).1]∧(Eb (l++[x]) S).2=(tmA x (Eb l S).2).2
 | [],S=>⟨rfl,rfl⟩
 | y::l,S=>by
  have:=Uk x l (tmA y S).2;exact⟨by rw[Lp',Eb,Eb];dsimp only;rw[this.1];rfl,by rw[Lp',Eb,Eb];exact this.2⟩
theorem tmAs_take{l:List (Al×Ad)}{i:Nat}{x:Al×Ad}(h:l[i]?=some x)(S:Sc):(Eb (l.take (i+1)) S).1=(Eb (l.take i) S).1++[(tmA x (Eb (l.take i) S).2).1]∧(Eb (l.take (i+1)) S).2=(tmA x (Eb (l.take i) S).2).2:=by
 rw[List.take_add_one,h];exact Uk x _ S
theorem Lh:∀ (l:List (Al×Ad))(S:Sc),(Eb l S).1.length=l.length
 | [],_=>rfl
 | x::l,S=>by rw[Eb];simp[Lh l]
theorem szAs_take{l:List (Al×Ad)}{i:Nat}{p:Al}{x:Ad}(h:l[i]?=some (p,x)):B1 (l.take i)+(szP p+szE x)≤B1 l:=by
 induction l generalizing i with
 | nil=>simp at h
 | cons y l ih =>
  cases i with
  | zero=>simp at h;subst h;simp[B1,szA]
  | succ i=>have:=ih (i:=i) (by simpa using h);simp only[List.take_succ_cons,B1];omega
theorem tmA_eq(p:Al)(x:Ad)(S:Sc):tmA (p,x) S=(((tmP p S.l.length S).1,(tmE x (tmP p S.l.length S).2).1),(tmE x (tmP p S.l.length S).2).2.cut S.l.length):=by rw[tmA]
def CsRes(w0:World)(P:Nat)(A:Option Addr)(w:World)(XS:List (Bp×At))(S':Sc)(e:Ending)(w':World):Prop :=
 ∃ A9 c9 cs A' c',e = .returned (.slice A9 XS.length c9)∧Qc w' (TOk w.heap.size A') (.slice A9 XS.length c9) XS cs∧Stp w0 P A w S' A' c' w'
theorem W8:(prog.info? 78).map (fun i=>(i.zero,i.size,i.bytes))=some (some (.agg #[vI 0,vI 0,vI 0,vE,vZ,vZ,vI 0,vI 0,vI 0,vI 0,vE,vZ,vZ,vZ]),14,208):=by kernel_rfl
theorem Pc{x:World}{C D:Nat}{T1 T2:TypeId}{a0 a1 a2 a3 a4 a5 a6 a7 a8 a9 a10 a11 a12 a13 a14 b0 b1 b2 b3 b4 b5:Value}(h:x.heap[C]?=some (.cells #[a0,a1,a2,a3,a4,a5,a6,a7,a8,a9,a10,a11,a12,a13,a14] T1 (0,0)))(k:x.heap[D]?=some (.cells #[b0,b1,b2,b3,b4,b5] T2 (0,0))):x.cell? ⟨C,7,none⟩=some a7∧x.cell? ⟨C,8,none⟩=some a8∧x.cell? ⟨C,9,none⟩=some a9∧x.cell? ⟨C,10,none⟩=some a10∧x.cell? ⟨C,11,none⟩=some a11∧x.cell? ⟨C,12,none⟩=some a12∧x.cell? ⟨C,13,none⟩=some a13∧x.cell? ⟨C,14,none⟩=some a14∧x.cell? ⟨D,0,none⟩=some b0∧x.cell? ⟨D,1,none⟩=some b1∧x.cell? ⟨D,2,none⟩=some b2∧x.cell? ⟨D,3,none⟩=some b3∧x.cell? ⟨D,4,none⟩=some b4∧x.cell? ⟨D,5,none⟩=some b5:=by
 obtain⟨h0,h1,h2,h3,h4,h5,h6,h7,h8,h9,h10,h11,h12,h13,h14⟩:=Lp h;obtain⟨⟨k0,k1,k2,k3,k4,k5⟩,_⟩:=Bl k;exact⟨h7,h8,h9,h10,h11,h12,h13,h14,k0,k1,k2,k3,k4,k5⟩
theorem Iu{w0:World}{P:Nat}{A A':Option Addr}{S S':Sc}{c c' B:Nat}{v w1 x1:World}(hs:Dg w0 P S A c v)(hPB:P<B)(hf:Fr [] v w1)(hst:Stp w0 P A w1 S' A' c' x1):Sh v x1 (TOk B A) (TOk B A'):=fun b hb hlt=>by
 have hs1:=hf.size
 have hnb:b ∉ scL P A:=fun hx=>by
  rcases Ay.1 hx with e|⟨a,e,e2⟩
  ·have:=hb.1;omega
  ·exact hb.2 a e e2.symm
 refine⟨⟨hb.1,hst.apart hb.2 oM⟩,(hst.2.1.block b oM hnb).trans (hf.block b hlt (fun x=>by cases x)),?_⟩;have:=hst.2.1.size;omega
theorem Oz{B:Nat}{A:Option Addr}{v w1:World}(hf:Fr [] v w1):Sh v w1 (TOk B A) (TOk B A):=fun b hb hlt=>⟨hb,hf.block b hlt (fun x=>by cases x),Nl' hlt hf.size⟩
theorem G5{B B':Nat}{A:Option Addr}{v w1:World}(hB:B'≤B)(hf:Fr [] v w1):Sh v w1 (TOk B A) (TOk B' A):=fun b hb hlt=>⟨⟨Nat.le_trans hB hb.1,hb.2⟩,hf.block b hlt (fun x=>by cases x),Nl' hlt hf.size⟩
section
attribute [local go_sem ↓] Go.wp_at_zero Go.wp_at_succ
def mkE:Nat→List (Int×Value)→List MapEntry
 | _,[]=>[]
 | i,(k,v)::l=>⟨vI k,v,i⟩::mkE (i+1) l
abbrev Ln:TypeId:=66
def shK:List (Int×Value):=[(1,.agg #[.bool true,.bool false,.bool false,vI 0]),(2,.agg #[.bool false,.bool true,.bool false,vI 0]),(3,.agg #[.bool false,.bool false,.bool true,vI 0]),(4,.agg #[.bool false,.bool true,.bool false,vI 0]),(5,.agg #[.bool false,.bool false,.bool false,vI 0]),(6,.agg #[.bool false,.bool false,.bool true,vI 0]),(7,.agg #[.bool true,.bool false,.bool false,vI 1]),(8,.agg #[.bool false,.bool false,.bool false,vI 2]),(9,.agg #[.bool true,.bool false,.bool false,vI 2]),(10,.agg #[.bool true,.bool false,.bool false,vI 2]),(11,.agg #[.bool false,.bool false,.bool false,vI 3]),(12,.agg #[.bool false,.bool false,.bool false,vI (-1)]),(13,.agg #[.bool false,.bool false,.bool true,vI 2]),(14,.agg #[.bool false,.bool false,.bool true,vI 1]),(15,.agg #[.bool false,.bool false,.bool true,vI 1]),(16,.agg #[.bool false,.bool false,.bool false,vI 1]),(17,.agg #[.bool true,.bool false,.bool false,vI 2]),(18,.agg #[.bool false,.bool false,.bool false,vI 1]),(19,.agg #[.bool false,.bool true,.bool false,vI (-2)])]
def shE(n:Nat):Array MapEntry:=(mkE 0 (shK.take n)).toArray
theorem Gb(w:World)(n:Nat)(k:Int)(v:Value)(hf:Instr.findNow (.int .i64) (vI k) (shE n).toList 0=some none)(he:(shE n).push ⟨vI k,v,n⟩=shE (n+1)):
  (Instr.mapUpdate Ln (.map (some w.heap.size)) (vI k) v).run prog (w.alloc (.map (shE n) n))= .ok () (w.alloc (.map (shE (n+1)) (n+1))):=by
 have:=Ka underlying66 underlying3 w (shE n) n k v hf;rw[he] at this;exact this
theorem Sm(w:World):Calls prog 21 #[] w fun e w'=>e = .returned (.map (some w.heap.size))∧w'=w.alloc (.map (shE 19) 19):=by
 have hmm:=@run_makeMap prog;have k1:=Gb w 0 1 (.agg #[.bool true,.bool false,.bool false,vI 0]) rfl rfl;have k2:=Gb w 1 2 (.agg #[.bool false,.bool true,.bool false,vI 0]) rfl rfl;have k3:=Gb w 2 3 (.agg #[.bool false,.bool false,.bool true,vI 0]) rfl rfl;have k4:=Gb w 3 4 (.agg #[.bool false,.bool true,.bool false,vI 0]) rfl rfl;have k5:=Gb w 4 5 (.agg #[.bool false,.bool false,.bool false,vI 0]) rfl rfl;have k6:=Gb w 5 6 (.agg #[.bool false,.bool false,.bool true,vI 0]) rfl rfl;have k7:=Gb w 6 7 (.agg #[.bool true,.bool false,.bool false,vI 1]) rfl rfl;have k8:=Gb w 7 8 (.agg #[.bool false,.bool false,.bool false,vI 2]) rfl rfl;have k9:=Gb w 8 9 (.agg #[.bool true,.bool false,.bool false,vI 2]) rfl rfl;have k10:=Gb w 9 10 (.agg #[.bool true,.bool false,.bool false,vI 2]) rfl rfl;have k11:=Gb w 10 11 (.agg #[.bool false,.bool false,.bool false,vI 3]) rfl rfl;have k12:=Gb w 11 12 (.agg #[.bool false,.bool false,.bool false,vI (-1)]) rfl rfl;have k13:=Gb w 12 13 (.agg #[.bool false,.bool false,.bool true,vI 2]) rfl rfl;have k14:=Gb w 13 14 (.agg #[.bool false,.bool false,.bool true,vI 1]) rfl rfl;have k15:=Gb w 14 15 (.agg #[.bool false,.bool false,.bool true,vI 1]) rfl rfl;have k16:=Gb w 15 16 (.agg #[.bool false,.bool false,.bool false,vI 1]) rfl rfl;have k17:=Gb w 16 17 (.agg #[.bool true,.bool false,.bool false,vI 2]) rfl rfl;have k18:=Gb w 17 18 (.agg #[.bool false,.bool false,.bool false,vI 1]) rfl rfl;have k19:=Gb w 18 19 (.agg #[.bool false,.bool true,.bool false,vI (-2)]) rfl rfl;rw[show shE 0 = #[] from rfl] at k1;simp only[Nat.reduceAdd] at k1 k2 k3 k4 k5 k6 k7 k8 k9 k10 k11 k12 k13 k14 k15 k16 k17 k18 k19;go_enter func21,ntmps21;exact qq104
theorem sh_hit1(x:World)(r:Nat)(hb:x.heap[r]?=some (.map (shE 19) 19)):(Instr.lookup Ln (.map (some r)) (vI 1) true).run prog x = .ok (.tuple #[.agg #[.bool true,.bool false,.bool false,vI 0],.bool true]) x :=
 Mm underlying66 underlying3 x r (shE 19) 19 hb 1 0 _ rfl
theorem sh_hit7(x:World)(r:Nat)(hb:x.heap[r]?=some (.map (shE 19) 19)):(Instr.lookup Ln (.map (some r)) (vI 7) true).run prog x = .ok (.tuple #[.agg #[.bool true,.bool false,.bool false,vI 1],.bool true]) x :=
 Mm underlying66 underlying3 x r (shE 19) 19 hb 7 6 _ rfl
def paK:List (Int×Value):=[(1,.agg #[.bool false,.bool false,.bool false,vI 0]),(2,.agg #[.bool true,.bool false,.bool false,vI 0]),(3,.agg #[.bool false,.bool true,.bool false,vI 0]),(4,.agg #[.bool false,.bool false,.bool true,vI 0]),(5,.agg #[.bool false,.bool true,.bool false,vI 0]),(6,.agg #[.bool false,.bool false,.bool false,vI 0]),(7,.agg #[.bool false,.bool false,.bool true,vI 0]),(8,.agg #[.bool false,.bool false,.bool true,vI 1]),(9,.agg #[.bool false,.bool false,.bool false,vI (-1)])]
def paE(n:Nat):Array MapEntry:=(mkE 0 (paK.take n)).toArray
theorem Lv(w:World)(n:Nat)(k:Int)(v:Value)(hf:Instr.findNow (.int .i64) (vI k) (paE n).toList 0=some none)(he:(paE n).push ⟨vI k,v,n⟩=paE (n+1)):
  (Instr.mapUpdate Ln (.map (some w.heap.size)) (vI k) v).run prog (w.alloc (.map (paE n) n))= .ok () (w.alloc (.map (paE (n+1)) (n+1))):=by
 have:=Ka underlying66 underlying3 w (paE n) n k v hf;rw[he] at this;exact this
theorem Ox(w:World):Calls prog 22 #[] w fun e w'=>e = .returned (.map (some w.heap.size))∧w'=w.alloc (.map (paE 9) 9):=by
 have hmm:=@run_makeMap prog;have k1:=Lv w 0 1 (.agg #[.bool false,.bool false,.bool false,vI 0]) rfl rfl;have k2:=Lv w 1 2 (.agg #[.bool true,.bool false,.bool false,vI 0]) rfl rfl;have k3:=Lv w 2 3 (.agg #[.bool false,.bool true,.bool false,vI 0]) rfl rfl;have k4:=Lv w 3 4 (.agg #[.bool false,.bool false,.bool true,vI 0]) rfl rfl;have k5:=Lv w 4 5 (.agg #[.bool false,.bool true,.bool false,vI 0]) rfl rfl;have k6:=Lv w 5 6 (.agg #[.bool false,.bool false,.bool false,vI 0]) rfl rfl;have k7:=Lv w 6 7 (.agg #[.bool false,.bool false,.bool true,vI 0]) rfl rfl;have k8:=Lv w 7 8 (.agg #[.bool false,.bool false,.bool true,vI 1]) rfl rfl;have k9:=Lv w 8 9 (.agg #[.bool false,.bool false,.bool false,vI (-1)]) rfl rfl;rw[show paE 0 = #[] from rfl] at k1;simp only[Nat.reduceAdd] at k1 k2 k3 k4 k5 k6 k7 k8 k9;go_enter func22,ntmps22;exact qq104
theorem zero_shape(w:World):(zeroValue 98).run prog w = .ok (.agg #[.bool false,.bool false,.bool false,vI 0]) w:=by kernel_rfl
theorem Yg(x:World)(r:Nat)(hb:x.heap[r]?=some (.map (shE 19) 19)):(Instr.lookup Ln (.map (some r)) (vI 0) true).run prog x = .ok (.tuple #[.agg #[.bool false,.bool false,.bool false,vI 0],.bool false]) x :=
 Qm underlying66 underlying3 x r (shE 19) 19 hb 0 _ rfl (zero_shape x)
theorem Ry(bv bn bs:Bool)(ha v n:Int)(s:LB)(A5:Option Addr)(m c5:Nat)(na:Nat)(hv:bv=true∨v=0)(hn:bn=true∨n=0)(hs:bs=true∨s=[])(ha':(ha = -1∧na=m)∨(ha≠-1∧m=0∧(na:Int)=ha))(w:World):
  Calls prog 47 #[.agg #[.bool bv,.bool bn,.bool bs,vI ha],vI v,vI n,vS s,.slice A5 m c5,vI na] w fun e w'=>e = .returned (.bool true)∧Fr [] w w':=by
 have f0:=(Fr.refl [] w).alloc (.cells #[.bool bv,.bool bn,.bool bs,vI ha] 98)
 rcases ha' with⟨rfl,rfl⟩| ⟨h1,rfl,rfl⟩
 ·exact qq161
 ·have h2:((na:Int)== -1)=false:=bN.2 oM;clear h1;exact qq161
theorem once_take{ls:List LB}(h:Ni ls=false){k:Nat}{y:LB}(hy:ls[k]?=some y):(ls.take k).contains y=false:=by
 have hp:∀ (a b:List LB),Ni (a++b)=false→Ni a=false:=by
  intro a b
  induction a with
  | nil=>intro _;rfl
  | cons x a ih =>
   intro h;simp only[Lp',Ni,Bool.or_eq_false_iff] at h ⊢;refine⟨?_,ih h.2⟩;have:=h.1;simp at this ⊢;exact this.1
 have h2:Ni (ls.take k++[y])=false:=by
  have e:ls=(ls.take k++[y])++ls.drop (k+1):=by
   have:ls.take k++[y]=ls.take (k+1):=by rw[List.take_add_one,hy];rfl
   rw[this,List.take_append_drop]
  rw[e] at h;exact hp _ _ h
 rw[Tq] at h2;simp only[Bool.or_eq_false_iff] at h2;exact h2.2
theorem nn541(h:p:=by
 exact(hFw.cell (p:=⟨g,o+i,none⟩) hg' (fun x=>by cases x)).trans (by have:=hc' 0 _ rfl;simpa using this)):p:=h
theorem Xx{w0 w:World}{ok:Nat→Prop}(hf:Fr [] w0 w)(ls:List LB)(ho:Tm ls)(A5:Option Addr)(c5:Nat)(d5:Nat→List Value)(h5:En w0 ok (.slice A5 ls.length c5) ls.length 1 d5)(e5:∀ (i:Nat)(x:LB),ls[i]?=some x→d5 i=Gk x)(hl:ls.length≤8796093022208):
  Calls prog 48 #[.slice A5 ls.length c5] w fun e w'=>e = .returned (.bool true)∧Fr [] w w':=by
 have HF:=Hz hf;have H5:=Hz h5;have HO:=Hz ho;have E5:Hid (∀ (i:Nat) (x:LB),ls[i]?=some x→d5 i=Gk x):=Hz e5;clear hf h5 e5 ho;go_enter func48,ntmps48;go_wp2_with fail
 go_loopw [7] (fun iv wr=>∃ k:Nat,iv=vI k∧k≤ls.length∧Hid (Fr [] w wr)) (fun iv wr=>ls.length-(intOf iv).toNat)
 case atStart=>exact⟨0,rfl,oM,Hz (Fr.refl [] _)⟩
 case round =>
  obtain⟨k,rfl,hk,HK⟩:=hrel;have q1:(0:Int)≤(k:Int):=by omega
  by_cases hlt:k<ls.length
  ·obtain⟨y,hy⟩:∃ y,ls[k]?=some y:=⟨ls[k],Lg' hlt⟩
   have hcap:=H5.out.cap oM;obtain⟨g,o,rfl,_,hg,_,_,hc⟩:=H5.out.row hlt;have hFw:=HF.out.trans HK.out
   have hso:StrsO g o (ls.take k) wr:=fun i x hx=>by
    have kqq277:=@Hz _ @nn541;exact qq277
   rw[E5.out k y hy] at hc;have x0:wr.cell? ⟨g,o+k,none⟩=some (vS y):=(hFw.cell (p:=⟨g,o+k,none⟩) hg (fun x=>by cases x)).trans (by have:=hc 0 _ rfl;simpa using this);have hlk:(ls.take k).length=k:=by rw[List.length_take];omega
   have cC:=Nk g o c5 (ls.take k) y oM wr hso;have hb:=once_take HO.out.2 hy;have hne:=HO.out.1 y (List.mem_of_getElem? hy);have hy1:(y==[])=false:=by simp[hne]
   rw[hlk,hb] at cC;have CC:=Hz cC;have q2:(k:Int)<(ls.length:Int):=by omega
   have q3:(k:Int)≤(c5:Int):=by omega
   have q4:k≤c5:=by omega
   clear hc hy hso cC hlk hb hne hFw;go_wp2_with fail;refine CC.out.mono ?_;rintro e w2 ⟨rfl,rfl⟩;go_wp2_with fail
   go_roundw
   case rel=>exact⟨k+1,by go_num,oM,HK⟩
   case measure=>simp[intOf];omega
  ·have q2:¬ (k:Int)<(ls.length:Int):=by omega
   clear hlt;go_wp2_with fail;go_ret;exact⟨rfl,HK.out⟩
def plK:List Int:=[2,3,4,5,6,8,11,13,14,15,18,19]
def plE:Nat→List Int→List MapEntry
 | _,[]=>[]
 | i,k::l=>⟨vI k,vI k,i⟩::plE (i+1) l
def mE(n:Nat):Array MapEntry:=(plE 0 (plK.take n)).toArray
abbrev TMapII:TypeId:=154
theorem Ji(w:World)(n:Nat)(k:Int)(hf:Instr.findNow (.int .i64) (vI k) (mE n).toList 0=some none)(he:(mE n).push ⟨vI k,vI k,n⟩=mE (n+1)):
  (Instr.mapUpdate TMapII (.map (some w.heap.size)) (vI k) (vI k)).run prog (w.alloc (.map (mE n) n))= .ok () (w.alloc (.map (mE (n+1)) (n+1))):=by
 have:=Ka underlying154 underlying3 w (mE n) n k (vI k) hf;rw[he] at this;exact this
theorem pl_look(k:Int)(hk:k ∈ plK)(x:World)(r:Nat)(hb:x.heap[r]?=some (.map (mE 12) 12)):
  (Instr.lookup TMapII (.map (some r)) (vI k) false).run prog x = .ok (vI k) x:=by
 obtain⟨i,hf⟩:∃ i,Instr.findNow (.int .i64) (vI k) (mE 12).toList 0=some (some (i,vI k)):=by
  simp only[plK,List.mem_cons,List.not_mem_nil,or_false] at hk;rcases hk with rfl|rfl|rfl|rfl|rfl|rfl|rfl|rfl|rfl|rfl|rfl|rfl
  all_goals exact⟨_,rfl⟩
 simp[Instr.lookup,run_underlying underlying154,run_underlying underlying3,MapKept.run_getObj_map hb,Ey underlying3 _ 9999,Instr.findKey,hf,Result.andThen]
theorem plain_step(N:Nat)(ih:TMC N)(k a:Int)(nm:LB)(n:Int)(s:LB)(ls:List LB)(args:List Ad)(arms:List (Al×Ad))(A5 A6 A7:Option Addr)(c5 c6 c7:Nat)(d6:Nat→List Value)(w0 w:World)(ok:Nat→Prop)(P:Nat)(S:Sc)(A:Option Addr)(c:Nat)
  (hk:k ∈ plK) (hN:Bk args<N) (hm:∀ (i:Nat) (x:Ad),args[i]?=some x→Bh x=true) (hw:∀ (i:Nat) (x:Ad),args[i]?=some x→WlE x) (h6:En w0 ok (.slice A6 args.length c6) args.length 8 d6) (e6:∀ (i:Nat) (x:Ad),args[i]?=some x→Ak w0 ok x (d6 i))
  (h:Dg w0 P S A c w) (hb:SB S (Bk args)) (hl:args.length≤1099511627775) (hsl:s.length+nm.length≤281474976702464):
  Calls prog 44 #[.pointer (some ⟨P,0,none⟩),.agg #[vI 0,vI a,vI 0,vI 0,vE,vZ,vZ,vZ],.agg #[vI k,vI a,vS nm,vI n,vS s,.slice A5 ls.length c5,.slice A6 args.length c6,.slice A7 arms.length c7]] w (Wd w0 P A w (Lx k a n nm s (Bf args none S).1) (Bf args none S).2.2):=by
 have cT:=fun W (hW:Dg w0 P S A c W)=>Hz (Ke N ih args A6 c6 d6 w0 W ok P S A c hN hm hw h6 e6 hW hb hl)
 have hlen:=Hv args none S
 generalize (Bf args none S).1=XS at *
 generalize (Bf args none S).2.2=S2 at *
 have HLEN:=Hz hlen;have HK:Hid (k ∈ plK):=Hz hk;have H:=Hz h;have hP:=h.lt;have HLE:=Hz h.le;clear ih hk hN hm hw h6 e6 h hb hl hlen;have hmm:=@run_makeMap prog
 let XW:World:=(((w.alloc (.cells #[vI 0,vI a,vI 0,vI 0,vE,vZ,vZ,vZ] 34)).alloc (.cells #[vI k,vI a,vS nm,vI n,vS s,.slice A5 ls.length c5,.slice A6 args.length c6,.slice A7 arms.length c7] 27)).alloc Dj)
 have k1:=Ji XW 0 2 rfl rfl;have k2:=Ji XW 1 3 rfl rfl;have k3:=Ji XW 2 4 rfl rfl;have k4:=Ji XW 3 5 rfl rfl;have k5:=Ji XW 4 6 rfl rfl;have k6:=Ji XW 5 8 rfl rfl;have k7:=Ji XW 6 11 rfl rfl;have k8:=Ji XW 7 13 rfl rfl;have k9:=Ji XW 8 14 rfl rfl;have k10:=Ji XW 9 15 rfl rfl;have k11:=Ji XW 10 18 rfl rfl;have k12:=Ji XW 11 19 rfl rfl;rw[show mE 0 = #[] from rfl] at k1;have hlk:=pl_look k HK.out (XW.alloc (.map (mE 12) 12)) XW.heap.size (Ag _ _);simp only[XW,World.size_alloc,Nat.reduceAdd] at k1 k2 k3 k4 k5 k6 k7 k8 k9 k10 k11 k12 hlk;clear XW;go_enter func44,ntmps44;go_wp2_with fail;clear k1 k2 k3 k4 k5 k6 k7 k8 k9 k10 k11 k12 hlk hmm;obtain⟨g0,g1,g2,f0,z0⟩:=Gy w (.cells #[vI k,vI a,vI 0,vI 0,vE,vZ,vZ,vZ] 34) (.cells #[vI k,vI a,vS nm,vI n,vS s,.slice A5 ls.length c5,.slice A6 args.length c6,.slice A7 arms.length c7] 27) Dj;unfold Lw at g0 g1 g2 f0 z0;replace g0:=Ae g0 (.map (mE 12) 12);replace g1:=Ae g1 (.map (mE 12) 12);replace g2:=Ae g2 (.map (mE 12) 12);replace f0:=f0.alloc (.map (mE 12) 12);have hz:((((w.alloc (.cells #[vI k,vI a,vI 0,vI 0,vE,vZ,vZ,vZ] 34)).alloc (.cells #[vI k,vI a,vS nm,vI n,vS s,.slice A5 ls.length c5,.slice A6 args.length c6,.slice A7 arms.length c7] 27)).alloc Dj).alloc (.map (mE 12) 12)).heap.size=w.heap.size+4:=by rw[World.size_alloc,z0]
 generalize (((w.alloc (.cells #[vI k,vI a,vI 0,vI 0,vE,vZ,vZ,vZ] 34)).alloc (.cells #[vI k,vI a,vS nm,vI n,vS s,.slice A5 ls.length c5,.slice A6 args.length c6,.slice A7 arms.length c7] 27)).alloc Dj).alloc (.map (mE 12) 12)=x0 at *
 obtain⟨⟨l0,l1,l2,l3,l4,l5,l6,l7⟩,v0,v1,v2,v3,v4,v5,v6,v7⟩:=Ac g0;obtain⟨⟨i0,i1,i2,i3,i4,i5,i6,i7⟩,_⟩:=Ac g1;have q1:¬ 9223372036854775807<s.length+nm.length:=by omega
 have n1:¬ w.heap.size+1=w.heap.size:=by omega
 have n2:¬ w.heap.size=w.heap.size+1:=by omega
 have hlt1:=Aa g0;have hlt2:=Aa g1;have HG:=Hz (⟨g0,g1,g2⟩:_∧_∧_);have HF:=Hz f0;have HZ:=Hz hz;clear g0 g1 g2 f0 z0 hz
 go_region_held3 (fun w'=>w'.cell? ⟨w.heap.size+1,3,none⟩=some (vI n)∧w'.cell? ⟨w.heap.size+1,4,none⟩=some (vS s)∧w'.cell? ⟨w.heap.size+1,2,none⟩=some (vS nm)) (first|go_keep) (fail)
 rw[Ks];have fT:Fr [w.heap.size] x0 ((x0.setCell ⟨w.heap.size,3,none⟩ (vI n)).setCell ⟨w.heap.size,4,none⟩ (.string ⟨(s++nm).toArray⟩)).drew:=(((Fr.refl _ x0).setCell (p:=⟨w.heap.size,3,none⟩) (.inl sM) _).setCell (p:=⟨w.heap.size,4,none⟩) (.inl sM) _).drew
 have g0:((x0.setCell ⟨w.heap.size,3,none⟩ (vI n)).setCell ⟨w.heap.size,4,none⟩ (.string ⟨(s++nm).toArray⟩)).drew.heap[w.heap.size]?=some (.cells #[vI k,vI a,vI 0,vI n,.string ⟨(s++nm).toArray⟩,vZ,vZ,vZ] 34 (0,0)):=by
  show((x0.setCell ⟨w.heap.size,3,none⟩ (vI n)).setCell ⟨w.heap.size,4,none⟩ (.string ⟨(s++nm).toArray⟩)).heap[w.heap.size]?=_;simp[World.setCell,Array.getElem?_modify,HG.out.1]
 have g1:=fT.keep HG.out.2.1 (by simp only[List.mem_singleton];omega);have g2:=fT.keep HG.out.2.2 (by simp only[List.mem_singleton];omega);have hst0:Stp w0 P A w S A c ((x0.setCell ⟨w.heap.size,3,none⟩ (vI n)).setCell ⟨w.heap.size,4,none⟩ (.string ⟨(s++nm).toArray⟩)).drew:=((Stp.refl H.out).fr0 HF.out).fresh fT sO (fun a e=>by have:=H.out.own_lt a e;simp;omega) HLE.out (fun y hy=>by simp at hy;omega);have hz1:=fT.size
 generalize ((x0.setCell ⟨w.heap.size,3,none⟩ (vI n)).setCell ⟨w.heap.size,4,none⟩ (.string ⟨(s++nm).toArray⟩)).drew=x1 at *
 clear fT l0 l1 l2 l3 l4 l5 l6 l7 v0 v1 v2 v3 v4 v5 v6 v7 i0 i1 i2 i3 i4 i5 i6 i7 q1 hlt1 hlt2;obtain⟨⟨i0,i1,i2,i3,i4,i5,i6,i7⟩,_⟩:=Ac g1;go_wp2_with fail;refine(cT x1 hst0.1).out.mono ?_;rintro e x8 ⟨A9,c9,cs,A2,c2,rfl,hR,hst2⟩;rw[HLEN.out] at hR ⊢
 have hn:∀ k,w.heap.size≤k→k<w.heap.size+4→k ∉ scL P A:=fun k h1 h2 hx=>by
  exact qq150
 have r0:=hst2.2.1.keep g0 (hn _ oM oM);have r2:=hst2.2.1.keep g2 (hn _ oM oM);have hz8:=hst2.2.1.size;have hz0:=HZ.out
 have hA2:∀ a,A2=some a→a.block<w.heap.size∨w.heap.size+4≤a.block:=fun a e=>by
  rcases hst2.2.2 a e with h1|h1
  ·exact .inl (H.out.own_lt a h1)
  ·right;omega
 obtain⟨⟨l0,l1,l2,l3,l4,l5,l6,l7⟩,v0,v1,v2,v3,v4,v5,v6,v7⟩:=Ac r0;obtain⟨⟨u0,u1,u2,u3,u4,u5,u6,u7⟩,z0,z1,z2,z3,z4,z5,z6,z7⟩:=Ac r2;have n3:¬ w.heap.size+1+1=w.heap.size:=by omega
 have n4:¬ w.heap.size=w.heap.size+1+1:=by omega
 have HST:=Hz (hst0.trans hst2);have HR:=Hz hR;have HR2:=Hz r2;have HA2:Hid (∀ a,A2=some a→a.block<w.heap.size∨w.heap.size+4≤a.block):=Hz hA2;clear hst0 hst2 hR g0 g1 g2 r0 r2 hn hA2 cT;go_wp2_with fail
 have hZ:Fr [w.heap.size+1+1,w.heap.size] x8 (((((((((x8.setCell ⟨w.heap.size,6,none⟩ (.slice A9 args.length c9)).setCell ⟨w.heap.size+1+1,0,none⟩ (vI k)).setCell ⟨w.heap.size+1+1,1,none⟩ (vI a)).setCell ⟨w.heap.size+1+1,2,none⟩ (vI 0)).setCell ⟨w.heap.size+1+1,3,none⟩ (vI n)).setCell ⟨w.heap.size+1+1,4,none⟩ (.string ⟨(s++nm).toArray⟩)).setCell ⟨w.heap.size+1+1,5,none⟩ (vZ)).setCell ⟨w.heap.size+1+1,6,none⟩ (.slice A9 args.length c9)).setCell ⟨w.heap.size+1+1,7,none⟩ (vZ)):=((((((((((Fr.refl [w.heap.size+1+1,w.heap.size] x8).setCell (p:=⟨w.heap.size,6,none⟩) (.inl sM) (.slice A9 args.length c9)).setCell (p:=⟨w.heap.size+1+1,0,none⟩) (.inl sM) (vI k)).setCell (p:=⟨w.heap.size+1+1,1,none⟩) (.inl sM) (vI a)).setCell (p:=⟨w.heap.size+1+1,2,none⟩) (.inl sM) (vI 0)).setCell (p:=⟨w.heap.size+1+1,3,none⟩) (.inl sM) (vI n)).setCell (p:=⟨w.heap.size+1+1,4,none⟩) (.inl sM) (.string ⟨(s++nm).toArray⟩)).setCell (p:=⟨w.heap.size+1+1,5,none⟩) (.inl sM) (vZ)).setCell (p:=⟨w.heap.size+1+1,6,none⟩) (.inl sM) (.slice A9 args.length c9)).setCell (p:=⟨w.heap.size+1+1,7,none⟩) (.inl sM) (vZ))
 have hG:=Aq (x:=x8.setCell ⟨w.heap.size,6,none⟩ (.slice A9 args.length c9)) (((Fr.refl [w.heap.size] x8).setCell (p:=⟨w.heap.size,6,none⟩) (.inl sM) (.slice A9 args.length c9)).keep HR2.out (by simp only[List.mem_singleton];omega)) (vI k) (vI a) (vI 0) (vI n) (.string ⟨(s++nm).toArray⟩) (vZ) (.slice A9 args.length c9) (vZ);unfold st8 at hG
 generalize ((((((((x8.setCell ⟨w.heap.size,6,none⟩ (.slice A9 args.length c9)).setCell ⟨w.heap.size+1+1,0,none⟩ (vI k)).setCell ⟨w.heap.size+1+1,1,none⟩ (vI a)).setCell ⟨w.heap.size+1+1,2,none⟩ (vI 0)).setCell ⟨w.heap.size+1+1,3,none⟩ (vI n)).setCell ⟨w.heap.size+1+1,4,none⟩ (.string ⟨(s++nm).toArray⟩)).setCell ⟨w.heap.size+1+1,5,none⟩ (vZ)).setCell ⟨w.heap.size+1+1,6,none⟩ (.slice A9 args.length c9)).setCell ⟨w.heap.size+1+1,7,none⟩ (vZ)=Z at *
 obtain⟨⟨g0,g1,g2,g3,g4,g5,g6,g7⟩,_⟩:=Ac hG;have hR9:J2 Z (TOk w.heap.size A2) (.slice A9 args.length c9) XS cs:=HR.out.keep D9 (fun b hb hlt=>⟨⟨by have:=hb.1;omega,hb.2⟩,hZ.block b hlt (by have:=hb.1;simp;omega),Nl' hlt hZ.size⟩);have hk:=HK.out
 have hX:Lx k a n nm s XS = .mk k a 0 n (s++nm) [] XS []:=by
  unfold Lx;rw[if_pos (by simp only[plK,List.mem_cons,List.not_mem_nil,or_false] at hk;omega)]
 refine bodyPost_ret (v:=.agg #[vI k,vI a,vI 0,vI n,.string ⟨(s++nm).toArray⟩,vZ,.slice A9 args.length c9,vZ]) ?_ rfl ⟨_,_,_,_,_,_,_,_,_,_,_,_,_,_,A2,c2,rfl,?_,HST.out.fresh hZ sO (fun a e=>by have:=HA2.out a e;simp;omega) HLE.out (fun y hy=>by simp at hy;omega)⟩
 ·simp[results,Tryz.f44,go_sem,g0,g1,g2,g3,g4,g5,g6,g7]
 ·rw[hX];exact Au.of_rows (c5:=fun _=>[]) (c7:=fun _=>[]) An.nil_ hR9 An.nil_
theorem nn48(h:p:=by
 have kqq77:=@Hz _ @nn210;exact qq77):p:=h
theorem nn387b(h:p:=by
 clear cC m0 m1 m2 m3 y0 y1 y2 y3 hcm c0 hcap hml mm1 mm2 mm3
 all_goals
  have hnn:∀ b,w.heap.size≤b→b ∉ scL P A:=fun b hb hx=>by
   rcases Ay.1 hx with e|⟨a,e,e2⟩
   ·omega
   ·have:=H.out.own_lt a e;omega
  have hS6:=H.out.fr0 (f0.trans f6);have Q0:=f6.keep g0 nE;have Q1:=f6.keep g1 nE;have Q2:=f6.keep g2 nE;have hz6:=f6.size;have F6:=Hz (f0.trans f6);clear g0 g1 g2 f6 f0
  obtain⟨SF,hSF⟩:∃ SF,SF=(if RR=true then S.fail 24 a else S):=⟨_,rfl⟩
  have HSF:=Hz hSF;have HGR:Hid (Gr S SF 0):=Hz (by rw[hSF];split;exact Gr.fail _ _ _;exact Gr.refl _);have HSN:Hid (SF.l=S.l∧SF.n=S.n):=Hz (by rw[hSF];split;exact Lr _ _ _;exact⟨rfl,rfl⟩);clear hSF;obtain rfl:=HRX.out;clear HRX;obtain⟨⟨l0,l1,l2,l3,l4,l5,l6⟩,_⟩:=Ao Q0;go_wp2_with fail;refine(Qu hS6 24 a).mono ?_;rintro e x7 ⟨rfl,h7⟩;clear l0 l1 l2 l3 l4 l5 l6;have e7:S.fail 24 a=SF:=by rw[HSF.out];simp
  rw[e7] at h7
  all_goals
   have R0:=h7.2.1.keep Q0 (hnn _ oM);have R1:=h7.2.1.keep Q1 (hnn _ oM);have R2:=h7.2.1.keep Q2 (hnn _ oM);have hz7:=h7.2.1.size;obtain⟨⟨l0,l1,l2,l3,l4,l5,l6⟩,_⟩:=Ao R0;have cB7:=cB x7 SF A c h7.1 (SB.step (j:=0) (hsb.mono (by simp only[szP];omega)) HGR.out);have H7:=Hz h7;clear h7 cB Q0 Q1 Q2;go_wp2_with fail;refine cB7.out.mono ?_;rintro e x8 ⟨A1,c1,rfl,h8⟩;clear cB7 l0 l1 l2 l3 l4 l5 l6;have Q0:=h8.2.1.keep R0 (hnn _ oM);have Q1:=h8.2.1.keep R1 (hnn _ oM);have Q2:=h8.2.1.keep R2 (hnn _ oM);obtain⟨⟨l0,l1,l2,l3,l4,l5,l6⟩,_⟩:=Ao Q0;obtain⟨⟨u0,u1,u2,u3,u4,u5⟩,z10,z11,z12,z13,z14,z15⟩:=Bl Q2;have H8:=Hz h8;clear h8;go_wp2_with fail;have fT:Fr [w.heap.size+1+1] x8 (x8.setCell ⟨w.heap.size+1+1,1,none⟩ (vI SF.n)):=(Fr.refl _ x8).setCell (p:=⟨w.heap.size+1+1,1,none⟩) (.inl sM) _;have hz8:=H8.out.2.1.size;have hsN:=HSN.out
   have hX:(tmP (.mk k a nm n s ls args) m S)=(.mk k SF.n n s [] (Bt args m (SF.bind nm)).1,(Bt args m (SF.bind nm)).2):=by
    rw[Hl];have hk:=HK.out;unfold preP;simp only[if_pos (show k=2 by omega),if_neg (show ¬ k=9 by omega),if_neg (show ¬ (k=7∨k=8) by omega)];have e8:(if (S.l.drop m).any (fun b=>b.1==nm)=true then S.fail 24 a else S)=SF:=by rw[HRR.out,HSF.out] <;> simp
    rw[e8,hsN.2]
   have hA1:∀ a,A1=some a→a.block<w.heap.size∨w.heap.size+3≤a.block:=fun a e=>by
    rcases H8.out.2.2 a e with h|h
    ·exact .inl (H.out.own_lt a h)
    ·right;omega
   have hst8:=(Stp.before F6.out H7.out).trans H8.out;have hbn:=Gd SF nm
   have hpre:Mc w0 P A w S k a nm n s ls args m (x8.setCell ⟨w.heap.size+1+1,1,none⟩ (vI SF.n)):=⟨SF.n,s,[],none,0,fun _=>[],SF.bind nm,A1,c1,hX,fT.keep Q1 sM,by simp[World.setCell,Array.getElem?_modify,Q2],An.nil_,hst8.fresh fT sO (fun a e=>by have:=hA1 a e;simp;omega) H.out.le (fun x hx=>by simp at hx;omega),SB.step (j:=0+1) (hsb.mono (by simp only[szP];omega)) (HGR.out.trans (Gr.bind SF nm)),by obtain⟨r,hr⟩:=hbn;rw[hr,La',hsN.1];have:=HM.out;omega,hA1,by have:=fT.size;omega⟩
   have HPRE:=Hz hpre
   generalize x8.setCell ⟨w.heap.size+1+1,1,none⟩ (vI SF.n)=x5 at *
   clear hpre hX t2 t7 t8 t9 HK l0 l1 l2 l3 l4 l5 l6 u0 u1 u2 u3 u4 u5 z10 z11 z12 z13 z14 z15 fT hz8 hsN hA1 hst8 hbn Q0 Q1 Q2 R0 R1 R2 hz7 hz6 hnn hsb
 all_goals
  exact qq1):p:=h
theorem qq2b(h:p:=by
 have kqq186:=@Hz _ @nn387b;exact qq186):p:=h
theorem nn95(h:p:=by
 simp only[hcm,if_true] at cC;exact qq2b):p:=h
theorem nn210(h:p:=by
 obtain⟨RR,hrr⟩:∃ RR,RR=true:=⟨_,rfl⟩
 have kqq31:=@Hz _ @nn95;exact qq31):p:=h
theorem tpat_2_np(N:Nat)(ih:TPC N)(k:Int)(hk0:k=2):TPC2 (N+1) k (fun S c m nm=>c-m=0∧(S.l.drop m).any (fun b=>b.1==nm)=true):=by
 intro a nm n s ls args A5 A6 c5 c6 w0 w ok P S A c m hN hW hx h hb hm hq0;have HQ:=Hz hq0;clear hq0;have kqq14:=@Hz _ @nn48;exact qq14
end
end Go.Proofs.YtlafbbnikgcdlaaGreatDoor
