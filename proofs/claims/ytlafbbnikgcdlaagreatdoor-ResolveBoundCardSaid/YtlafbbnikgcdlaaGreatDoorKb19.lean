/- A part of the proof: Hb, Hc, Hd, He, Hf, Nw. -/
import Derived.Test.YtlafbbnikgcdlaaGreatDoorKb18
namespace Go.Proofs.YtlafbbnikgcdlaaGreatDoor
open Go.RowKit
open _root_.Go.Proofs.Tryz
set_option linter.all false
set_option maxHeartbeats 16000000
set_option maxRecDepth 100000
variable{p:Prop}
open List renaming cons_append→Lp',append_assoc→Ls'
open Nat renaming lt_of_lt_of_le→Nl',le_refl→Nr'
open Bool renaming and_eq_true→Ba'
theorem Bc(r:LB):Az (32::r)=Az r:=Zy r rfl
theorem Cz(r:LB):Sep (32::r):=Sep.cons dC
theorem I9(r:LB):Sep (41::r):=Sep.cons dC
theorem sep125(r:LB):Sep (125::r):=Sep.cons dC
theorem sep44(r:LB):Sep (44::r):=Sep.cons dC
theorem sep46(r:LB):Sep (46::r):=Sep.cons dC
theorem sep59(r:LB):Sep (59::r):=Sep.cons dC
theorem Xm{r:LB}(hr:Sep r):Az (108::101::116::r)=(Az r).map (W [108,101,116] :: ·):=Cj (nm:=[108,101,116]) dC dC dC hr
theorem lexW_rec{r:LB}(hr:Sep r):Az (114::101::99::r)=(Az r).map (W [114,101,99] :: ·):=Cj (nm:=[114,101,99]) dC dC dC hr
theorem lexW_in{r:LB}(hr:Sep r):Az (105::110::r)=(Az r).map (W [105,110] :: ·):=Cj (nm:=[105,110]) dC dC dC hr
theorem Xl{r:LB}(hr:Sep r):Az (102::117::110::r)=(Az r).map (W [102,117,110] :: ·):=Cj (nm:=[102,117,110]) dC dC dC hr
theorem Z2{r:LB}(hr:Sep r):Az (109::97::116::99::104::r)=(Az r).map (W [109,97,116,99,104] :: ·):=Cj (nm:=[109,97,116,99,104]) dC dC dC hr
theorem Pf{r:LB}(hr:Sep r):Az (119::105::116::104::r)=(Az r).map (W [119,105,116,104] :: ·):=Cj (nm:=[119,105,116,104]) dC dC dC hr
theorem Xk{r:LB}(hr:Sep r):Az (101::110::100::r)=(Az r).map (W [101,110,100] :: ·):=Cj (nm:=[101,110,100]) dC dC dC hr
theorem lexW_if{r:LB}(hr:Sep r):Az (105::102::r)=(Az r).map (W [105,102] :: ·):=Cj (nm:=[105,102]) dC dC dC hr
theorem lexW_then{r:LB}(hr:Sep r):Az (116::104::101::110::r)=(Az r).map (W [116,104,101,110] :: ·):=Cj (nm:=[116,104,101,110]) dC dC dC hr
theorem lexW_else{r:LB}(hr:Sep r):Az (101::108::115::101::r)=(Az r).map (W [101,108,115,101] :: ·):=Cj (nm:=[101,108,115,101]) dC dC dC hr
theorem lexW_try{r:LB}(hr:Sep r):Az (116::114::121::r)=(Az r).map (W [116,114,121] :: ·):=Cj (nm:=[116,114,121]) dC dC dC hr
theorem Z3{r:LB}(hr:Sep r):Az (114::97::105::115::101::r)=(Az r).map (W [114,97,105,115,101] :: ·):=Cj (nm:=[114,97,105,115,101]) dC dC dC hr
theorem lexW_true{r:LB}(hr:Sep r):Az (116::114::117::101::r)=(Az r).map (W [116,114,117,101] :: ·):=Cj (nm:=[116,114,117,101]) dC dC dC hr
theorem Z1{r:LB}(hr:Sep r):Az (102::97::108::115::101::r)=(Az r).map (W [102,97,108,115,101] :: ·):=Cj (nm:=[102,97,108,115,101]) dC dC dC hr
theorem lexW_not{r:LB}(hr:Sep r):Az (110::111::116::r)=(Az r).map (W [110,111,116] :: ·):=Cj (nm:=[110,111,116]) dC dC dC hr
theorem lexW_ref{r:LB}(hr:Sep r):Az (114::101::102::r)=(Az r).map (W [114,101,102] :: ·):=Cj (nm:=[114,101,102]) dC dC dC hr
theorem Z0{r:LB}(hr:Sep r):Az (97::114::114::97::121::r)=(Az r).map (W [97,114,114,97,121] :: ·):=Cj (nm:=[97,114,114,97,121]) dC dC dC hr
theorem lexW_get{r:LB}(hr:Sep r):Az (103::101::116::r)=(Az r).map (W [103,101,116] :: ·):=Cj (nm:=[103,101,116]) dC dC dC hr
theorem lexW_set{r:LB}(hr:Sep r):Az (115::101::116::r)=(Az r).map (W [115,101,116] :: ·):=Cj (nm:=[115,101,116]) dC dC dC hr
theorem lexW_len{r:LB}(hr:Sep r):Az (108::101::110::r)=(Az r).map (W [108,101,110] :: ·):=Cj (nm:=[108,101,110]) dC dC dC hr
theorem lexW_size{r:LB}(hr:Sep r):Az (115::105::122::101::r)=(Az r).map (W [115,105,122,101] :: ·):=Cj (nm:=[115,105,122,101]) dC dC dC hr
theorem lexW_byte{r:LB}(hr:Sep r):Az (98::121::116::101::r)=(Az r).map (W [98,121,116,101] :: ·):=Cj (nm:=[98,121,116,101]) dC dC dC hr
theorem lexW_cat{r:LB}(hr:Sep r):Az (99::97::116::r)=(Az r).map (W [99,97,116] :: ·):=Cj (nm:=[99,97,116]) dC dC dC hr
theorem lexW_getc{r:LB}(hr:Sep r):Az (103::101::116::99::r)=(Az r).map (W [103,101,116,99] :: ·):=Cj (nm:=[103,101,116,99]) dC dC dC hr
theorem lexW_putc{r:LB}(hr:Sep r):Az (112::117::116::99::r)=(Az r).map (W [112,117,116,99] :: ·):=Cj (nm:=[112,117,116,99]) dC dC dC hr
def B8(t:LB)(k:List Sp):Prop:=∀ r,Sep r→Az (t++r)=(Az r).map (k ++ ·)
theorem B8.sep{t:LB}{k:List Sp}(h:B8 t k){r:LB}(hr:Sep r):Az (t++r)=(Az r).map (k ++ ·):=h r hr
inductive Pw:List LB→List (List Sp)→Prop
 | nil:Pw [] []
 | cons {t k l ks} (h:B8 t k) (hs:Pw l ks):Pw (t::l) (k::ks)
theorem Mz{x:Sp}{f:List Sp→List Sp}(o:Option (List Sp)):(o.map f).map (x :: ·)=o.map (fun z=>x::f z):=by cases o <;> rfl
theorem map_app2{k:List Sp}{f:List Sp→List Sp}(o:Option (List Sp)):(o.map f).map (k ++ ·)=o.map (fun z=>k++f z):=by cases o <;> rfl
theorem map_eq{f g:List Sp→List Sp}(h:∀ z,f z=g z)(o:Option (List Sp)):o.map f=o.map g:=by rw[funext h]
theorem B8.name{nm:LB}(h:Aw nm=true):B8 nm [(1,nm,0)]:=fun r hr=>Hp h hr
theorem B8.upper{nm:LB}(h:Eg nm=true):B8 nm [(2,nm,0)]:=fun r hr=>Zz h hr
theorem B8.str(s:LB):B8 (Dr s) [(5,s,0)]:=fun r _=>lexS_str s r
theorem B8.int{n:Int}(h0:0≤n)(h1:n≤Ff):B8 (Lib.itoa n) [(4,[],n)]:=fun r hr=>lexS_int h0 h1 hr
theorem B8.truth(n:Int):B8 (Ir n) [W (Ir n)]:=fun r hr=>by
 unfold Ir;split
 ·exact lexW_true hr
 ·exact Z1 hr
theorem B8.unit:B8 [40,41] [G [40],G [41]]:=fun r _=>by
 show Az (40::41::r)=_;rw[Fd,Fe,Mz];rfl
theorem B8.neg{n:Int}(h0:n<0)(h1:-Ff≤n):B8 (Lib.itoa n) [G [45],(4,[],-n)]:=fun r hr=>by
 have e:Lib.itoa n=45::Lib.itoa (-n):=by
  unfold Lib.itoa;rw[if_pos h0,if_neg oM]
  congr 2
  omega
 obtain⟨hd,hne⟩:=Xc (-n) oM;have key:=B8.int (n:=-n) oM oM r hr;rw[e]
 generalize Lib.itoa (-n)=l at *
 cases l with
 | nil=>exact absurd rfl hne
 | cons c t =>
  have hc:De c=true:=by rw[List.all_cons,Ba'] at hd;exact hd.1
  have h62:c≠62:=fun e=>by subst e;exact absurd hc dC
  show Az (45::c::(t++r))=_;rw[Ve c h62,← Lp',key,Mz];rfl
theorem row_sep(f:Bool)(ls:List LB)(l:List LB)(r:LB)(hr:Sep r):Sep (Jj false ls l++r):=by
 cases ls with
 | nil=>exact hr
 | cons x ls =>
  cases l with
  | nil=>exact hr
  | cons t l=>exact sep44 _
theorem Vq:∀ (ls:List LB){l:List LB}{ks:List (List Sp)},ls.all Aw=true→Pw l ks→∀ f:Bool,B8 (Jj f ls l) (Vp f ls ks)
 | [],l,ks,_,h,f=>fun r hr=>by
  have e1:Jj f [] l=[]:=by cases l <;> rfl
  have e2:Vp f [] ks=[]:=by cases ks <;> rfl
  rw[e1,e2,List.nil_append]
  cases Az r <;> rfl
 | x::ls,_,_,_,.nil,f=>fun r hr=>by
  show Az r=_
  cases Az r <;> rfl
 | x::ls,_,_,hn,.cons (t:=t) (k:=k) (l:=l) (ks:=ks) h hs,f=>fun r hr=>by
  rw[List.all_cons,Ba'] at hn;have ih:=Vq ls hn.2 hs false
  have key:∀ r,Sep r→Az (x++([32,61,32]++(t++Jj false ls l))++r)=(Az r).map (((1,x,0)::G [61]::(k++Vp false ls ks))++ ·):=fun r hr=>by
   simp only[Ls',Lp',List.nil_append];rw[Hp hn.1 (Cz _),Bc,Oj,Bc,h.sep (row_sep false ls l r hr),ih.sep hr];exact qq62
  cases f with
  | true=>exact key r hr
  | false =>
   have:=key r hr;show Az (44::32::(x++([32,61,32]++(t++Jj false ls l))++r))=_;rw[lexG_44,Bc,this,Mz];exact map_eq (fun z=>by simp[Vp]) _
inductive V9:List (List UInt8×LB)→List (List Sp×List Sp)→Prop
 | nil:V9 [] []
 | cons {p t kp k l ks} (hp:B8 p kp) (h:B8 t k) (hs:V9 l ks):V9 ((p,t)::l) ((kp,k)::ks)
theorem arm_sep(l:List (List UInt8×LB))(r:LB)(hr:Sep r):Sep (J3 false l++r):=by
 cases l with
 | nil=>exact hr
 | cons x l=>exact Cz _
theorem U2:∀ {l:List (List UInt8×LB)}{ks:List (List Sp×List Sp)},V9 l ks→∀ f:Bool,B8 (J3 f l) (Te f ks)
 | _,_,.nil,f=>fun r hr=>by
  show Az r=_
  cases Az r <;> rfl
 | _,_,.cons (p:=p) (t:=t) (kp:=kp) (k:=k) (l:=l) (ks:=ks) hp h hs,f=>fun r hr=>by
  have ih:=U2 hs false
  have key:∀ r,Sep r→Az (p++([32,45,62,32]++(t++J3 false l))++r)=(Az r).map ((kp++(G [45,62]::(k++Te false ks)))++ ·):=fun r hr=>by
   simp only[Ls',Lp',List.nil_append];rw[hp.sep (Cz _),Bc,N0,Bc,h.sep (arm_sep l r hr),ih.sep hr];exact qq62
  cases f with
  | true=>exact key r hr
  | false =>
   have:=key r hr;show Az (32::124::32::(p++([32,45,62,32]++(t++J3 false l))++r))=_;rw[Bc,lexG_124 32 dC,Bc,this,Mz];exact map_eq (fun z=>by simp[Te]) _
theorem Wr(l:List LB)(r:LB)(hr:Sep r):Sep (Ik l++r):=by
 cases l with
 | nil=>exact hr
 | cons x l=>exact Cz _
theorem Wq:∀ {l:List LB}{ks:List (List Sp)},Pw l ks→B8 (Ik l) (To ks)
 | _,_,.nil=>fun r hr=>by
  show Az r=_
  cases Az r <;> rfl
 | _,_,.cons (t:=t) (k:=k) (l:=l) (ks:=ks) h hs=>fun r hr=>by
  show Az (32::(t++Ik l++r))=_;rw[Bc,Ls',h.sep (Wr l r hr),(Wq hs).sep hr,map_app2];exact map_eq (fun z=>by simp[To]) _
theorem op_in{n:Int}(h1:1≤n)(h2:n≤21):n=1∨n=2∨n=3∨n=4∨n=5∨n=6∨n=7∨n=8∨n=9∨n=10∨n=11∨n=12∨n=13∨n=14∨n=15∨n=16∨n=17∨n=18∨n=19∨n=20∨n=21:=by omega
theorem op_lex{n:Int}(h1:1≤n)(h2:n≤21)(r:LB):Az (Fj n++32::r)=(Az r).map (Sn n :: ·):=by
 rcases op_in h1 h2 with rfl|rfl|rfl|rfl|rfl|rfl|rfl|rfl|rfl|rfl|rfl|rfl|rfl|rfl|rfl|rfl|rfl|rfl|rfl|rfl|rfl
 ·show Az (43::32::r)=_;rw[lexG_43,Bc];rfl
 ·show Az (45::32::r)=_;rw[Ve 32 dC,Bc];rfl
 ·show Az (42::32::r)=_;rw[lexG_42,Bc];rfl
 ·show Az (47::32::r)=_;rw[lexG_47,Bc];rfl
 ·show Az (37::32::r)=_;rw[lexG_37,Bc];rfl
 ·show Az (45::32::r)=_;rw[Ve 32 dC,Bc];rfl
 ·show Az (61::32::r)=_;rw[Oj,Bc];rfl
 ·show Az (60::32::r)=_;rw[lexG_60,Bc];rfl
 ·show Az (110::111::116::32::r)=_;rw[lexW_not (Cz r),Bc];rfl
 ·show Az (114::101::102::32::r)=_;rw[lexW_ref (Cz r),Bc];rfl
 ·show Az (33::32::r)=_;rw[lexG_33,Bc];rfl
 ·show Az (58::61::32::r)=_;rw[Zx,Bc];rfl
 ·show Az (97::114::114::97::121::32::r)=_;rw[Z0 (Cz r),Bc];rfl
 ·show Az (103::101::116::32::r)=_;rw[lexW_get (Cz r),Bc];rfl
 ·show Az (115::101::116::32::r)=_;rw[lexW_set (Cz r),Bc];rfl
 ·show Az (108::101::110::32::r)=_;rw[lexW_len (Cz r),Bc];rfl
 ·show Az (115::105::122::101::32::r)=_;rw[lexW_size (Cz r),Bc];rfl
 ·show Az (98::121::116::101::32::r)=_;rw[lexW_byte (Cz r),Bc];rfl
 ·show Az (99::97::116::32::r)=_;rw[lexW_cat (Cz r),Bc];rfl
 ·show Az (103::101::116::99::32::r)=_;rw[lexW_getc (Cz r),Bc];rfl
 ·show Az (112::117::116::99::32::r)=_;rw[lexW_putc (Cz r),Bc];rfl
inductive J1:Int→List UInt8→Int→List UInt8→List LB→Nat→Nat→Int→Prop
 | var {nm:LB} {k0:Int} (h:Aw nm=true):J1 1 nm 0 [] [] 0 0 k0
 | int {n:Int} {k0:Int} (h:0≤n∧n≤Ff):J1 2 [] n [] [] 0 0 k0
 | str {s:LB} {k0:Int} :J1 3 [] 0 s [] 0 0 k0
 | bool {n:Int} {k0:Int} (h:n=0∨n=1):J1 4 [] n [] [] 0 0 k0
 | unit  {k0:Int} :J1 5 [] 0 [] [] 0 0 k0
 | exn {nm:LB} {k0:Int} (h:Eg nm=true):J1 6 nm 0 [] [] 0 0 k0
 | fn {nm:LB} {k0:Int} (h:Aw nm=true):J1 7 nm 0 [] [] 1 0 k0
 | app  {k0:Int} :J1 8 [] 0 [] [] 2 0 k0
 | let_ {nm:LB} {k0:Int} (h:Aw nm=true):J1 9 nm 0 [] [] 2 0 k0
 | rec_ {nm:LB} {k0:Int} (h:Aw nm=true) (hk:k0=7):J1 10 nm 0 [] [] 2 0 k0
 | if_  {k0:Int} :J1 11 [] 0 [] [] 3 0 k0
 | record {ls:List LB} {k0:Int} (h:ls.all Aw=true):J1 12 [] 0 [] ls ls.length 0 k0
 | with_ {nm:LB} {k0:Int} (h:Aw nm=true):J1 13 nm 0 [] [] 2 0 k0
 | field {nm:LB} {k0:Int} (h:Aw nm=true):J1 14 nm 0 [] [] 1 0 k0
 | tag {nm:LB} {k0:Int} (h:Eg nm=true):J1 15 nm 0 [] [] 1 0 k0
 | match_ {ma:Nat} {k0:Int} (h:0<ma):J1 16 [] 0 [] [] 1 ma k0
 | try_ {ma:Nat} {k0:Int} (h:0<ma):J1 17 [] 0 [] [] 1 ma k0
 | raise_  {k0:Int} :J1 18 [] 0 [] [] 1 0 k0
 | op {n:Int} {k0:Int} (h:1≤n∧n≤21):J1 19 [] n [] [] (D4 n) 0 k0
 | seq  {k0:Int} :J1 20 [] 0 [] [] 2 0 k0
 | and_  {k0:Int} :J1 21 [] 0 [] [] 2 0 k0
 | or_  {k0:Int} :J1 22 [] 0 [] [] 2 0 k0
theorem nn392(h:p:=by
 exact .tag (by first|exact h2|simpa using h2)):p:=h
theorem nn393(h:p:=by
 exact .field (by first|exact h2|simpa using h2)):p:=h
theorem nn394(h:p:=by
 exact .with_ (by first|exact h2|simpa using h2)):p:=h
theorem nn395(h:p:=by
 exact .record (by first|exact h2|simpa using h2)):p:=h
theorem nn396(h:p:=by
 exact .rec_ (by simpa using h2.1) (by simpa using h2.2)):p:=h
theorem nn397(h:p:=by
 exact .let_ (by first|exact h2|simpa using h2)):p:=h
theorem nn398(h:p:=by
 exact .fn (by first|exact h2|simpa using h2)):p:=h
theorem nn399(h:p:=by
 exact .exn (by first|exact h2|simpa using h2)):p:=h
theorem nn400(h:p:=by
 exact .bool (by first|exact h2|simpa using h2)):p:=h
theorem nn401(h:p:=by
 exact .int (by first|exact h2|simpa using h2)):p:=h
theorem nn402(h:p:=by
 exact .var (by first|exact h2|simpa using h2)):p:=h
theorem frmE_of{k:Int}{nm:LB}{n:Int}{s:LB}{ls:List LB}{na ma:Nat}{k0:Int}(h:D3 k nm n s ls na ma k0=true):J1 k nm n s ls na ma k0:=by
 unfold D3 at h;rw[Ba'] at h;obtain⟨h1,h2⟩:=h;by_cases e1:k=1
 ·subst e1;have kqq195:=@Hz _ @nn402;exact qq195
 by_cases e2:k=2
 ·subst e2;have kqq195:=@Hz _ @nn401;exact qq195
 by_cases e3:k=3
 ·subst e3;simp[Cc,Ah] at h1;obtain⟨⟨⟨⟨rfl,rfl⟩,rfl⟩,rfl⟩,rfl⟩:=h1;exact .str
 by_cases e4:k=4
 ·subst e4;have kqq195:=@Hz _ @nn400;exact qq195
 by_cases e5:k=5
 ·subst e5;simp[Cc,Ah] at h1;obtain⟨⟨⟨⟨⟨rfl,rfl⟩,rfl⟩,rfl⟩,rfl⟩,rfl⟩:=h1;exact .unit
 by_cases e6:k=6
 ·subst e6;have kqq195:=@Hz _ @nn399;exact qq195
 by_cases e7:k=7
 ·subst e7;have kqq195:=@Hz _ @nn398;exact qq195
 by_cases e8:k=8
 ·subst e8;simp[Cc,Ah] at h1;obtain⟨⟨⟨⟨⟨rfl,rfl⟩,rfl⟩,rfl⟩,rfl⟩,rfl⟩:=h1;exact .app
 by_cases e9:k=9
 ·subst e9;have kqq195:=@Hz _ @nn397;exact qq195
 by_cases e10:k=10
 ·subst e10;have kqq195:=@Hz _ @nn396;exact qq195
 by_cases e11:k=11
 ·subst e11;simp[Cc,Ah] at h1;obtain⟨⟨⟨⟨⟨rfl,rfl⟩,rfl⟩,rfl⟩,rfl⟩,rfl⟩:=h1;exact .if_
 by_cases e12:k=12
 ·subst e12;have kqq195:=@Hz _ @nn395;exact qq195
 by_cases e13:k=13
 ·subst e13;have kqq195:=@Hz _ @nn394;exact qq195
 by_cases e14:k=14
 ·subst e14;have kqq195:=@Hz _ @nn393;exact qq195
 by_cases e15:k=15
 ·subst e15;have kqq195:=@Hz _ @nn392;exact qq195
 by_cases e16:k=16
 ·subst e16;simp[Cc,Ah] at h1;obtain⟨⟨⟨⟨⟨rfl,rfl⟩,rfl⟩,rfl⟩,rfl⟩,hm⟩:=h1;exact .match_ oM
 by_cases e17:k=17
 ·subst e17;simp[Cc,Ah] at h1;obtain⟨⟨⟨⟨⟨rfl,rfl⟩,rfl⟩,rfl⟩,rfl⟩,hm⟩:=h1;exact .try_ oM
 by_cases e18:k=18
 ·subst e18;simp[Cc,Ah] at h1;obtain⟨⟨⟨⟨⟨rfl,rfl⟩,rfl⟩,rfl⟩,rfl⟩,rfl⟩:=h1;exact .raise_
 by_cases e19:k=19
 ·subst e19;by_cases hn:1≤n∧n≤21
  ·simp[Cc,Ah,hn] at h1;obtain⟨⟨⟨⟨rfl,rfl⟩,rfl⟩,rfl⟩,rfl⟩:=h1;exact .op hn
  ·simp[Cc,hn] at h1
 by_cases e20:k=20
 ·subst e20;simp[Cc,Ah] at h1;obtain⟨⟨⟨⟨⟨rfl,rfl⟩,rfl⟩,rfl⟩,rfl⟩,rfl⟩:=h1;exact .seq
 by_cases e21:k=21
 ·subst e21;simp[Cc,Ah] at h1;obtain⟨⟨⟨⟨⟨rfl,rfl⟩,rfl⟩,rfl⟩,rfl⟩,rfl⟩:=h1;exact .and_
 by_cases e22:k=22
 ·subst e22;simp[Cc,Ah] at h1;obtain⟨⟨⟨⟨⟨rfl,rfl⟩,rfl⟩,rfl⟩,rfl⟩,rfl⟩:=h1;exact .or_
 simp[Cc,e1,e2,e3,e4,e5,e6,e7,e8,e9,e10,e11,e12,e13,e14,e15,e16,e17,e18,e19,e20,e21,e22] at h1
theorem lx7{nm:LB}(h:Aw nm=true){t0:LB}{k0:List Sp}(h0:B8 t0 k0):B8 ([40,102,117,110,32]++(nm++([32,45,62,32]++(t0++([41]))))) (G [40]::(W [102,117,110]::((1,nm,0)::(G [45,62]::(k0++([G [41]])))))):=fun r _=>by
 simp only[Ls',Lp',List.nil_append];rw[Fd,Xl (Cz _),Bc,Hp h (Cz _),Bc,N0,Bc,h0.sep (I9 _),Fe];exact qq62
theorem lx8{t0:LB}{k0:List Sp}(h0:B8 t0 k0){t1:LB}{k1:List Sp}(h1:B8 t1 k1):B8 ([40]++(t0++([32]++(t1++([41]))))) (G [40]::(k0++(k1++([G [41]])))):=fun r _=>by
 simp only[Ls',Lp',List.nil_append];rw[Fd,h0.sep (Cz _),Bc,h1.sep (I9 _),Fe];exact qq62
theorem lx9{nm:LB}(h:Aw nm=true){t0:LB}{k0:List Sp}(h0:B8 t0 k0){t1:LB}{k1:List Sp}(h1:B8 t1 k1):B8 ([40,108,101,116,32]++(nm++([32,61,32]++(t0++([32,105,110,32]++(t1++([41]))))))) (G [40]::(W [108,101,116]::((1,nm,0)::(G [61]::(k0++(W [105,110]::(k1++([G [41]])))))))):=fun r _=>by
 simp only[Ls',Lp',List.nil_append];rw[Fd,Xm (Cz _),Bc,Hp h (Cz _),Bc,Oj,Bc,h0.sep (Cz _),Bc,lexW_in (Cz _),Bc,h1.sep (I9 _),Fe];exact qq62
theorem lx10{nm:LB}(h:Aw nm=true){t0:LB}{k0:List Sp}(h0:B8 t0 k0){t1:LB}{k1:List Sp}(h1:B8 t1 k1):B8 ([40,108,101,116,32,114,101,99,32]++(nm++([32,61,32]++(t0++([32,105,110,32]++(t1++([41]))))))) (G [40]::(W [108,101,116]::(W [114,101,99]::((1,nm,0)::(G [61]::(k0++(W [105,110]::(k1++([G [41]]))))))))):=fun r _=>by
 simp only[Ls',Lp',List.nil_append];rw[Fd,Xm (Cz _),Bc,lexW_rec (Cz _),Bc,Hp h (Cz _),Bc,Oj,Bc,h0.sep (Cz _),Bc,lexW_in (Cz _),Bc,h1.sep (I9 _),Fe];exact qq62
theorem lx11{t0:LB}{k0:List Sp}(h0:B8 t0 k0){t1:LB}{k1:List Sp}(h1:B8 t1 k1){t2:LB}{k2:List Sp}(h2:B8 t2 k2):B8 ([40,105,102,32]++(t0++([32,116,104,101,110,32]++(t1++([32,101,108,115,101,32]++(t2++([41]))))))) (G [40]::(W [105,102]::(k0++(W [116,104,101,110]::(k1++(W [101,108,115,101]::(k2++([G [41]])))))))):=fun r _=>by
 simp only[Ls',Lp',List.nil_append];rw[Fd,lexW_if (Cz _),Bc,h0.sep (Cz _),Bc,lexW_then (Cz _),Bc,h1.sep (Cz _),Bc,lexW_else (Cz _),Bc,h2.sep (I9 _),Fe];exact qq62
theorem lx12{ls:List LB}{l:List LB}{ks:List (List Sp)}(hrow:B8 (Jj true ls l) (Vp true ls ks)):B8 ([123]++(Jj true ls l++([125]))) (G [123]::(Vp true ls ks++([G [125]]))):=fun r _=>by
 simp only[Ls',Lp',List.nil_append];rw[Xh,hrow.sep (sep125 _),Xi];exact qq62
theorem lx13{nm:LB}(h:Aw nm=true){t0:LB}{k0:List Sp}(h0:B8 t0 k0){t1:LB}{k1:List Sp}(h1:B8 t1 k1):B8 ([123]++(t0++([32,119,105,116,104,32]++(nm++([32,61,32]++(t1++([125]))))))) (G [123]::(k0++(W [119,105,116,104]::((1,nm,0)::(G [61]::(k1++([G [125]]))))))):=fun r _=>by
 simp only[Ls',Lp',List.nil_append];rw[Xh,h0.sep (Cz _),Bc,Pf (Cz _),Bc,Hp h (Cz _),Bc,Oj,Bc,h1.sep (sep125 _),Xi];exact qq62
theorem lx14{nm:LB}(h:Aw nm=true){t0:LB}{k0:List Sp}(h0:B8 t0 k0):B8 (t0++([46]++(nm))) (k0++(G [46]::([(1,nm,0)]))):=fun r hr=>by
 simp only[Ls',Lp',List.nil_append];rw[h0.sep (sep46 _),lexG_46,Hp h hr];exact qq62
theorem lx15{nm:LB}(h:Eg nm=true){t0:LB}{k0:List Sp}(h0:B8 t0 k0):B8 ([40]++((35::nm)++([32]++(t0++([41]))))) (G [40]::((3,nm,0)::(k0++([G [41]])))):=fun r _=>by
 exact qq313
theorem lx16{t0:LB}{k0:List Sp}(h0:B8 t0 k0){m:List (List UInt8×LB)}{mk:List (List Sp×List Sp)}(harm:B8 (J3 true m) (Te true mk)):B8 ([40,109,97,116,99,104,32]++(t0++([32,119,105,116,104,32]++(J3 true m++([32,101,110,100,41]))))) (G [40]::(W [109,97,116,99,104]::(k0++(W [119,105,116,104]::(Te true mk++(W [101,110,100]::([G [41]]))))))):=fun r _=>by
 simp only[Ls',Lp',List.nil_append];rw[Fd,Z2 (Cz _),Bc,h0.sep (Cz _),Bc,Pf (Cz _),Bc,harm.sep (Cz _),Bc,Xk (I9 _),Fe];exact qq62
theorem lx17{t0:LB}{k0:List Sp}(h0:B8 t0 k0){m:List (List UInt8×LB)}{mk:List (List Sp×List Sp)}(harm:B8 (J3 true m) (Te true mk)):B8 ([40,116,114,121,32]++(t0++([32,119,105,116,104,32]++(J3 true m++([32,101,110,100,41]))))) (G [40]::(W [116,114,121]::(k0++(W [119,105,116,104]::(Te true mk++(W [101,110,100]::([G [41]]))))))):=fun r _=>by
 simp only[Ls',Lp',List.nil_append];rw[Fd,lexW_try (Cz _),Bc,h0.sep (Cz _),Bc,Pf (Cz _),Bc,harm.sep (Cz _),Bc,Xk (I9 _),Fe];exact qq62
theorem lx18{t0:LB}{k0:List Sp}(h0:B8 t0 k0):B8 ([40,114,97,105,115,101,32]++(t0++([41]))) (G [40]::(W [114,97,105,115,101]::(k0++([G [41]])))):=fun r _=>by
 simp only[Ls',Lp',List.nil_append];rw[Fd,Z3 (Cz _),Bc,h0.sep (I9 _),Fe];exact qq62
theorem lx20{t0:LB}{k0:List Sp}(h0:B8 t0 k0){t1:LB}{k1:List Sp}(h1:B8 t1 k1):B8 ([40]++(t0++([59,32]++(t1++([41]))))) (G [40]::(k0++(G [59]::(k1++([G [41]]))))):=fun r _=>by
 simp only[Ls',Lp',List.nil_append];rw[Fd,h0.sep (sep59 _),lexG_59,Bc,h1.sep (I9 _),Fe];exact qq62
theorem lx21{t0:LB}{k0:List Sp}(h0:B8 t0 k0){t1:LB}{k1:List Sp}(h1:B8 t1 k1):B8 ([40]++(t0++([32,38,38,32]++(t1++([41]))))) (G [40]::(k0++(G [38,38]::(k1++([G [41]]))))):=fun r _=>by
 simp only[Ls',Lp',List.nil_append];rw[Fd,h0.sep (Cz _),Bc,Zw,Bc,h1.sep (I9 _),Fe];exact qq62
theorem lx22{t0:LB}{k0:List Sp}(h0:B8 t0 k0){t1:LB}{k1:List Sp}(h1:B8 t1 k1):B8 ([40]++(t0++([32,124,124,32]++(t1++([41]))))) (G [40]::(k0++(G [124,124]::(k1++([G [41]]))))):=fun r _=>by
 simp only[Ls',Lp',List.nil_append];rw[Fd,h0.sep (Cz _),Bc,Vd,Bc,h1.sep (I9 _),Fe];exact qq62
theorem lx107{nm:LB}(h:Aw nm=true){t0:LB}{k0:List Sp}(h0:B8 t0 k0):B8 ([102,117,110,32]++(nm++([32,45,62,32]++(t0)))) (W [102,117,110]::((1,nm,0)::(G [45,62]::(k0)))):=fun r hr=>by
 simp only[Ls',Lp',List.nil_append];rw[Xl (Cz _),Bc,Hp h (Cz _),Bc,N0,Bc,h0.sep hr];exact qq62
theorem lx108{nm:LB}(h:Eg nm=true){t0:LB}{k0:List Sp}(h0:B8 t0 k0):B8 ([40]++((35::nm)++([32]++(t0++([41]))))) (G [40]::((3,nm,0)::(k0++([G [41]])))):=fun r _=>by
 exact qq313
theorem B8.cong{t t':LB}{k k':List Sp}(h:B8 t k)(e:t'=t)(e':k'=k):B8 t' k':=by rw[e,e'];exact h
theorem lxOp1{n:Int}(h1:1≤n)(h2:n≤21){t0:LB}{k0:List Sp}(h0:B8 t0 k0):B8 (40::(Fj n++(32::t0)++[41])) (G [40]::(Sn n::k0++[G [41]])):=fun r _=>by
 simp only[Ls',Lp',List.nil_append];rw[Fd,op_lex h1 h2,h0.sep (I9 _),Fe];exact qq62
theorem lxOp2{n:Int}(h1:1≤n)(h2:n≤21){t0:LB}{k0:List Sp}(h0:B8 t0 k0){t1:LB}{k1:List Sp}(h3:B8 t1 k1):B8 (40::(t0++(32::(Fj n++(32::t1)))++[41])) (G [40]::(k0++(Sn n::k1)++[G [41]])):=fun r _=>by
 simp only[Ls',Lp',List.nil_append];rw[Fd,h0.sep (Cz _),Bc,op_lex h1 h2,h3.sep (I9 _),Fe];exact qq62
theorem lxOpN{n:Int}(h1:1≤n)(h2:n≤21){l:List LB}{ks:List (List Sp)}(hl:Pw l ks)(hne:l≠[]):B8 (40::(Fj n++Ik l++[41])) (G [40]::(Sn n::To ks++[G [41]])):=fun r _=>by
 cases hl with
 | nil=>exact absurd rfl hne
 | @cons t k l ks h hs =>
  have e:∀ z,Ik (t::l)++z=32::(t++(Ik l++z)):=fun z=>by simp[Ik]
  simp only[Ls',Lp',List.nil_append];rw[Fd,e,op_lex h1 h2,h.sep (Wr l _ (I9 r)),(Wq hs).sep (I9 r),Fe];simp only[Option.map_map];exact map_eq (fun z=>by simp[To]) _
theorem txPs_lex{args:List Al}(h:∀ (i:Nat)(x:Al),args[i]?=some x→B8 (txP x) (tkP x)):Pw (Ih args) (Yq args):=by
 induction args with
 | nil=>rw[Ih,Yq];exact .nil
 | cons x l ih=>rw[Ih,Yq];exact .cons (h 0 x rfl) (ih (fun i y hy=>h (i+1) y hy))
theorem txEs_lex{args:List Ad}(h:∀ (i:Nat)(x:Ad),args[i]?=some x→B8 (txE x) (tkE x)):Pw (Bj args) (Kf args):=by
 induction args with
 | nil=>rw[Bj,Kf];exact .nil
 | cons x l ih=>rw[Bj,Kf];exact .cons (h 0 x rfl) (ih (fun i y hy=>h (i+1) y hy))
theorem txAs_lex{arms:List (Al×Ad)}(hp:∀ (i:Nat)(p:Al)(x:Ad),arms[i]?=some (p,x)→B8 (txP p) (tkP p))(h:∀ (i:Nat)(p:Al)(x:Ad),arms[i]?=some (p,x)→B8 (txE x) (tkE x)):V9 (Dp arms) (tkAs arms):=by
 induction arms with
 | nil=>rw[Dp,tkAs];exact .nil
 | cons x l ih =>
  obtain⟨p,x⟩:=x;rw[Dp,tkAs,txA,tkA];exact .cons (hp 0 p x rfl) (h 0 p x rfl) (ih (fun i p y hy=>hp (i+1) p y hy) (fun i p y hy=>h (i+1) p y hy))
theorem txEs_len(l:List Ad):(Bj l).length=l.length:=by induction l with|nil=>rfl|cons x l ih=>simp[Bj,ih]
theorem Tz:∀ {l:List Al},Dt l=true→∀ (i:Nat)(x:Al),l[i]?=some x→Fb x=true
 | [],_,i,x,h=>by simp at h
 | y::l,hm,i,x,h=>by
  rw[Dt,Ba'] at hm
  cases i with
  | zero=>simp at h;subst h;exact hm.1
  | succ i=>exact Tz hm.2 i x (by simpa using h)
theorem Ek:∀ {l:List Ad},Ax l=true→∀ (i:Nat)(x:Ad),l[i]?=some x→Bh x=true
 | [],_,i,x,h=>by simp at h
 | y::l,hm,i,x,h=>by
  rw[Ax,Ba'] at hm
  cases i with
  | zero=>simp at h;subst h;exact hm.1
  | succ i=>exact Ek hm.2 i x (by simpa using h)
theorem Ej:∀ {l:List (Al×Ad)},Bd l=true→∀ (i:Nat)(p:Al)(x:Ad),l[i]?=some (p,x)→Fb p=true∧Bh x=true
 | [],_,i,p,x,h=>by simp at h
 | (q,y)::l,hm,i,p,x,h=>by
  rw[Bd,Ba',mayA,Ba'] at hm
  cases i with
  | zero=>simp at h;obtain⟨rfl,rfl⟩:=h;exact hm.1
  | succ i=>exact Ej hm.2 i p x (by simpa using h)
theorem Lu{α:Type}:∀ {l:List α},l.length=1→∃ a,l=[a]
 | [a],_=>⟨a,rfl⟩
theorem Jl{α:Type}:∀ {l:List α},l.length=2→∃ a b,l=[a,b]
 | [a,b],_=>⟨a,b,rfl⟩
theorem three_of{α:Type}:∀ {l:List α},l.length=3→∃ a b c,l=[a,b,c]
 | [a,b,c],_=>⟨a,b,c,rfl⟩
inductive S6:Int→List UInt8→Int→List UInt8→List LB→Nat→Prop
 | any:S6 1 [] 0 [] [] 0
 | var {nm:LB} (h:Aw nm=true) (hu:nm≠[95]):S6 2 nm 0 [] [] 0
 | int {n:Int} (h:-Ff≤n∧n≤Ff):S6 3 [] n [] [] 0
 | str {s:LB}:S6 4 [] 0 s [] 0
 | bool {n:Int} (h:n=0∨n=1):S6 5 [] n [] [] 0
 | unit:S6 6 [] 0 [] [] 0
 | exn {nm:LB} (h:Eg nm=true):S6 7 nm 0 [] [] 0
 | tag {nm:LB} (h:Eg nm=true):S6 8 nm 0 [] [] 1
 | record {ls:List LB} (h:ls.all Aw=true):S6 9 [] 0 [] ls ls.length
theorem frmP_of{k:Int}{nm:LB}{n:Int}{s:LB}{ls:List LB}{na:Nat}(h:Hm k nm n s ls na=true):S6 k nm n s ls na:=by
 unfold Hm at h;rw[Ba'] at h;obtain⟨h1,h2⟩:=h;by_cases e1:k=1
 ·subst e1;simp[Ez,Ah] at h1;obtain⟨⟨⟨⟨rfl,rfl⟩,rfl⟩,rfl⟩,rfl⟩:=h1;exact .any
 by_cases e2:k=2
 ·subst e2;simp[Ez,Ah] at h1;simp[E3] at h2;obtain⟨⟨⟨rfl,rfl⟩,rfl⟩,rfl⟩:=h1;exact .var h2.1 h2.2
 by_cases e3:k=3
 ·subst e3;simp[Ez,Ah] at h1;simp[E3] at h2;obtain⟨⟨⟨rfl,rfl⟩,rfl⟩,rfl⟩:=h1;exact .int h2
 by_cases e4:k=4
 ·subst e4;simp[Ez,Ah] at h1;obtain⟨⟨⟨rfl,rfl⟩,rfl⟩,rfl⟩:=h1;exact .str
 by_cases e5:k=5
 ·subst e5;simp[Ez,Ah] at h1;simp[E3] at h2;obtain⟨⟨⟨rfl,rfl⟩,rfl⟩,rfl⟩:=h1;exact .bool h2
 by_cases e6:k=6
 ·subst e6;simp[Ez,Ah] at h1;obtain⟨⟨⟨⟨rfl,rfl⟩,rfl⟩,rfl⟩,rfl⟩:=h1;exact .unit
 by_cases e7:k=7
 ·subst e7;simp[Ez,Ah] at h1;simp[E3] at h2;obtain⟨⟨⟨rfl,rfl⟩,rfl⟩,rfl⟩:=h1;exact .exn h2
 by_cases e8:k=8
 ·subst e8;simp[Ez,Ah] at h1;simp[E3] at h2;obtain⟨⟨⟨rfl,rfl⟩,rfl⟩,rfl⟩:=h1;exact .tag h2
 by_cases e9:k=9
 ·subst e9;simp[Ez,Ah] at h1;simp[E3] at h2;obtain⟨⟨⟨rfl,rfl⟩,rfl⟩,rfl⟩:=h1;exact .record (by first|exact h2|simpa using h2)
 simp[Ez,e1,e2,e3,e4,e5,e6,e7,e8,e9] at h1
theorem name_us:Aw [95]=true:=by decide
theorem lexP:∀ (N:Nat)(x:Al),szP x<N→Fb x=true→B8 (txP x) (tkP x)
 | 0,_,h,_=>absurd h (Nat.not_lt_zero _)
 | N+1,.mk k a nm n s ls args,hlt,hm=>by
  have hsz:szP (.mk k a nm n s ls args)=1+E2 args:=by simp[szP]
  rw[Fb,Ba'] at hm;obtain⟨hf,hm⟩:=hm;have IH:∀ (i:Nat) (x:Al),args[i]?=some x→B8 (txP x) (tkP x):=fun i x hx=>lexP N x (by have:=O3 hx;omega) (Tz hm i x hx)
  have hl:=txPs_lex IH;rw[txP,tkP];generalize hna:args.length=na at hf
  cases frmP_of hf with
  | any=>exact B8.name name_us
  | var h _=>exact B8.name h
  | int h =>
   by_cases h0:n<0
   ·have:=B8.neg h0 h.1;have e:patK 3 [] n [] [] (Yq args)=[G [45],(4,[],-n)]:=by simp[patK,h0]
    rw[e];exact this
   ·have:=B8.int (n:=n) oM h.2;have e:patK 3 [] n [] [] (Yq args)=[(4,[],n)]:=by simp[patK,h0]
    rw[e];exact this
  | str=>exact B8.str s
  | bool h=>exact B8.truth n
  | unit=>exact B8.unit
  | exn h=>exact B8.upper h
  | tag h =>
   obtain⟨x0,rfl⟩:=Lu hna;simp only[Ih,Yq]
   exact(lx108 h (IH 0 x0 rfl)).cong (by simp[Ow]) (by simp[patK])
  | record h =>
   exact(lx12 (Vq ls h hl true)).cong (by simp[Ow]) (by simp[patK])
theorem k_mk{k a:Int}{nm:LB}{n:Int}{s:LB}{ls:List LB}{args:List Ad}{arms:List (Al×Ad)}:(Ad.mk k a nm n s ls args arms).k_=k:=rfl
theorem inside_mk(x:LB):Ia (40::(x++[41]))=x:=by simp[Ia]
theorem Zp(x:List Sp):Oi (G [40]::(x++[G [41]]))=x:=by simp[Oi]
theorem lexE:∀ (N:Nat)(x:Ad),szE x<N→Bh x=true→B8 (txE x) (tkE x)∧(x.k_=7→B8 (Ia (txE x)) (Oi (tkE x)))
 | 0,_,h,_=>absurd h (Nat.not_lt_zero _)
 | N+1,.mk k a nm n s ls args arms,hlt,hm=>by
  have hsz:szE (.mk k a nm n s ls args arms)=1+(Bk args+B1 arms):=by simp[szE]
  rw[Bh,Ba',Ba'] at hm;obtain⟨⟨hf,hm⟩,hma⟩:=hm;have IH2:∀ (i:Nat) (x:Ad),args[i]?=some x→B8 (txE x) (tkE x)∧(x.k_=7→B8 (Ia (txE x)) (Oi (tkE x))):=fun i x hx=>lexE N x (by have:=Kd hx;omega) (Ek hm i x hx)
  have IH:∀ (i:Nat) (x:Ad),args[i]?=some x→B8 (txE x) (tkE x):=fun i x hx=>(IH2 i x hx).1
  have hl:=txEs_lex IH;have ha:=txAs_lex (arms:=arms) (fun i p x hx=>lexP (szP p+1) p (Nat.lt_succ_self _) (Ej hma i p x hx).1) (fun i p x hx=>(lexE N x (by have:=Kc hx;have:=szP_pos p;omega) (Ej hma i p x hx).2).1);rw[k_mk,txE,tkE];generalize hna:args.length=na at hf;generalize arms.length=ma at hf;generalize hk0:Er args=k0 at hf
  cases frmE_of hf with
  | var h=>exact⟨B8.name h,fun e=>by cases e⟩
  | int h=>exact⟨B8.int h.1 h.2,fun e=>by cases e⟩
  | str=>exact⟨B8.str s,fun e=>by cases e⟩
  | bool h=>exact⟨B8.truth n,fun e=>by cases e⟩
  | unit=>exact⟨B8.unit,fun e=>by cases e⟩
  | exn h=>exact⟨B8.upper h,fun e=>by cases e⟩
  | fn h =>
   obtain⟨x0,rfl⟩:=Lu hna;simp only[Bj,Kf];refine⟨(lx7 h (IH 0 x0 rfl)).cong (by simp[E4,Bv]) (by simp[Hu,G4]),fun _=>?_⟩;have e1:E4 7 nm 0 [] [] [txE x0] (Dp arms)=40::(([102,117,110,32]++(nm++([32,45,62,32]++txE x0)))++[41]):=rfl;have e2:Hu 7 nm 0 [] [] [tkE x0] (tkAs arms)=G [40]::((W [102,117,110]::(1,nm,0)::G [45,62]::tkE x0)++[G [41]]):=rfl;rw[e1,e2,inside_mk,Zp]
   exact lx107 h (IH 0 x0 rfl)
  | app =>
   obtain⟨x0,x1,rfl⟩:=Jl hna;simp only[Bj,Kf]
   exact⟨(lx8 (IH 0 x0 rfl) (IH 1 x1 rfl)).cong (by simp[E4,Bv]) (by simp[Hu,G4]),fun e=>by cases e⟩
  | let_ h =>
   obtain⟨x0,x1,rfl⟩:=Jl hna;simp only[Bj,Kf]
   exact⟨(lx9 h (IH 0 x0 rfl) (IH 1 x1 rfl)).cong (by simp[E4,Bv]) (by simp[Hu,G4]),fun e=>by cases e⟩
  | if_ =>
   obtain⟨x0,x1,x2,rfl⟩:=three_of hna;simp only[Bj,Kf]
   exact⟨(lx11 (IH 0 x0 rfl) (IH 1 x1 rfl) (IH 2 x2 rfl)).cong (by simp[E4,Bv]) (by simp[Hu,G4]),fun e=>by cases e⟩
  | with_ h =>
   obtain⟨x0,x1,rfl⟩:=Jl hna;simp only[Bj,Kf]
   exact⟨(lx13 h (IH 0 x0 rfl) (IH 1 x1 rfl)).cong (by simp[E4,Bv]) (by simp[Hu,G4]),fun e=>by cases e⟩
  | field h =>
   obtain⟨x0,rfl⟩:=Lu hna;simp only[Bj,Kf]
   exact⟨(lx14 h (IH 0 x0 rfl)).cong (by simp[E4,Bv]) (by simp[Hu,G4]),fun e=>by cases e⟩
  | tag h =>
   obtain⟨x0,rfl⟩:=Lu hna;simp only[Bj,Kf]
   exact⟨(lx15 h (IH 0 x0 rfl)).cong (by simp[E4,Bv]) (by simp[Hu,G4]),fun e=>by cases e⟩
  | raise_ =>
   obtain⟨x0,rfl⟩:=Lu hna;simp only[Bj,Kf]
   exact⟨(lx18 (IH 0 x0 rfl)).cong (by simp[E4,Bv]) (by simp[Hu,G4]),fun e=>by cases e⟩
  | seq =>
   obtain⟨x0,x1,rfl⟩:=Jl hna;simp only[Bj,Kf]
   exact⟨(lx20 (IH 0 x0 rfl) (IH 1 x1 rfl)).cong (by simp[E4,Bv]) (by simp[Hu,G4]),fun e=>by cases e⟩
  | and_ =>
   obtain⟨x0,x1,rfl⟩:=Jl hna;simp only[Bj,Kf]
   exact⟨(lx21 (IH 0 x0 rfl) (IH 1 x1 rfl)).cong (by simp[E4,Bv]) (by simp[Hu,G4]),fun e=>by cases e⟩
  | or_ =>
   obtain⟨x0,x1,rfl⟩:=Jl hna;simp only[Bj,Kf]
   exact⟨(lx22 (IH 0 x0 rfl) (IH 1 x1 rfl)).cong (by simp[E4,Bv]) (by simp[Hu,G4]),fun e=>by cases e⟩
  | rec_ h hk =>
   obtain⟨x0,x1,rfl⟩:=Jl hna;have hx:=(IH2 0 x0 rfl).2 (hk0.trans hk);simp only[Bj,Kf]
   exact⟨(lx10 h hx (IH 1 x1 rfl)).cong (by simp[E4,Bv]) (by simp[Hu,G4]),fun e=>by cases e⟩
  | record h=>exact⟨(lx12 (Vq ls h hl true)).cong (by simp[E4,Bv]) (by simp[Hu,G4]),fun e=>by cases e⟩
  | match_ h =>
   obtain⟨x0,rfl⟩:=Lu hna;simp only[Bj,Kf]
   exact⟨(lx16 (IH 0 x0 rfl) (U2 ha true)).cong (by simp[E4,Bv]) (by simp[Hu,G4]),fun e=>by cases e⟩
  | try_ h =>
   obtain⟨x0,rfl⟩:=Lu hna;simp only[Bj,Kf]
   exact⟨(lx17 (IH 0 x0 rfl) (U2 ha true)).cong (by simp[E4,Bv]) (by simp[Hu,G4]),fun e=>by cases e⟩
  | op h =>
   refine⟨?_,fun e=>by cases e⟩;have e1:∀ l m,E4 19 [] n [] [] l m=40::(opT n l++[41]):=fun l m=>rfl
   have e2:∀ l m,Hu 19 [] n [] [] l m=G [40]::(opK n l++[G [41]]):=fun l m=>rfl
   rw[e1,e2];unfold opT opK;by_cases hu:n=6∨n=9∨n=11
   ·rw[if_pos hu,if_pos hu];have ha:D4 n=1:=by unfold D4;rw[if_pos oM]
    rw[ha] at hna;obtain⟨x0,rfl⟩:=Lu hna;simp only[Bj,Kf];exact lxOp1 h.1 h.2 (IH 0 x0 rfl)
   ·rw[if_neg hu,if_neg hu];by_cases hb:n≤8∨n=12
    ·rw[if_pos hb,if_pos hb];have ha:D4 n=2:=by unfold D4;rw[if_neg oM,if_neg oM]
     rw[ha] at hna;obtain⟨x0,x1,rfl⟩:=Jl hna;simp only[Bj,Kf];exact lxOp2 h.1 h.2 (IH 0 x0 rfl) (IH 1 x1 rfl)
    ·rw[if_neg hb,if_neg hb];refine lxOpN h.1 h.2 hl ?_;intro he;have:=txEs_len args;rw[he,hna] at this;have h1:1≤D4 n:=by unfold D4;split <;>(try split)<;> omega
     simp at this;omega
theorem text_toks{x:Ad}(h:Bh x=true):Az (txE x)=some (tkE x++[(0,[],0)]):=by
 have:=(lexE (szE x+1) x (Nat.lt_succ_self _) h).1 [] Sep.nil_;rw[List.append_nil,show Az []=some [(0,[],0)] by rfl] at this;exact this
def L5(us:List Tok)(i:Nat)(sh:List Sp):Prop:=∀ (j:Nat)(q:Sp),sh[j]?=some q→∃ a,us[i+j]?=some ⟨q.1,a,q.2.1,q.2.2⟩
theorem L5.left{us:List Tok}{i:Nat}{a b:List Sp}(h:L5 us i (a++b)):L5 us i a:=fun j q hj=>h j q (by rw[List.getElem?_append_left (List.getElem?_eq_some_iff.1 hj).1];exact hj)
theorem L5.right{us:List Tok}{i:Nat}{a b:List Sp}(h:L5 us i (a++b)):L5 us (i+a.length) b:=fun j q hj=>by
 have:=h (a.length+j) q (by rw[List.getElem?_append_right oM,Nat.add_sub_cancel_left];exact hj)
 rwa [← Nat.add_assoc] at this
theorem L5.head{us:List Tok}{i:Nat}{q:Sp}{b:List Sp}(h:L5 us i (q::b)):∃ a,us[i]?=some ⟨q.1,a,q.2.1,q.2.2⟩:=h 0 q rfl
theorem L5.tail{us:List Tok}{i:Nat}{q:Sp}{b:List Sp}(h:L5 us i (q::b)):L5 us (i+1) b:=fun j p hj=>by
 have:=h (j+1) p (by simpa using hj)
 rwa [show i+(j+1)=i+1+j by omega] at this
structure Fi1 (t:Tok):Prop where
 let_:isB t true [[108,101,116]]=false
 fun_:isB t true [[102,117,110]]=false
 match_:isB t true [[109,97,116,99,104]]=false
 try_:isB t true [[116,114,121]]=false
 if_:isB t true [[105,102]]=false
 raise_:isB t true [[114,97,105,115,101]]=false
structure Fi2 (t:Tok):Prop where
 one:Fi1 t
 neg:isB t true [[45]]=false
 not_:isB t true [[110,111,116]]=false
structure Fi3 (t:Tok):Prop where
 two:Fi2 t
 tag:t.k≠3
 op:t.k=6→¬ 0<(Bz t.text).1
structure Fi4 (t:Tok):Prop where
 three:Fi3 t
 ex:isB t true [[33]]=false
 beg:Di t true=true
 dot:isB t true [[46]]=false
theorem G8{t:Tok}(h:t.k≠6∧t.k≠7)(ok:Bool)(l:List LB):isB t ok l=false:=by
 have h6:(t.k==6)=false:=bN.2 h.1;have h7:(t.k==7)=false:=bN.2 h.2;unfold isB O8;rw[h6,h7];cases ok <;> rfl
theorem fi2_kind{t:Tok}(h:t.k≠6∧t.k≠7):Fi2 t:=⟨⟨G8 h _ _,G8 h _ _,G8 h _ _,G8 h _ _,G8 h _ _,G8 h _ _⟩,G8 h _ _,G8 h _ _⟩
theorem Oh{k:Int}{a:Nat}{tx:LB}{n:Int}(h:k=1∨k=2∨k=4∨k=5):Fi4 ⟨k,a,tx,n⟩:=by
 have h67:(⟨k,a,tx,n⟩:Tok).k≠6∧(⟨k,a,tx,n⟩:Tok).k≠7:=by show k≠6∧k≠7;omega
 refine⟨⟨fi2_kind h67,by show k≠3;omega,fun e=>absurd e h67.1⟩,G8 h67 _ _,?_,G8 h67 _ _⟩;rcases h with rfl|rfl|rfl|rfl <;> rfl
theorem fi4_open(a:Nat)(n:Int):Fi4 ⟨7,a,[40],n⟩:=⟨⟨⟨⟨rfl,rfl,rfl,rfl,rfl,rfl⟩,rfl,rfl⟩,by show(7:Int)≠3;decide,fun e=>by cases e⟩,rfl,rfl,rfl⟩
theorem Ts(a:Nat)(n:Int):Fi4 ⟨7,a,[123],n⟩:=⟨⟨⟨⟨rfl,rfl,rfl,rfl,rfl,rfl⟩,rfl,rfl⟩,by show(7:Int)≠3;decide,fun e=>by cases e⟩,rfl,rfl,rfl⟩
theorem fi4_true(a:Nat)(n:Int):Fi4 ⟨6,a,[116,114,117,101],n⟩:=⟨⟨⟨⟨rfl,rfl,rfl,rfl,rfl,rfl⟩,rfl,rfl⟩,by show(6:Int)≠3;decide,fun _=>by show ¬ 0<(Bz [116,114,117,101]).1;decide⟩,rfl,rfl,rfl⟩
theorem fi4_false(a:Nat)(n:Int):Fi4 ⟨6,a,[102,97,108,115,101],n⟩:=⟨⟨⟨⟨rfl,rfl,rfl,rfl,rfl,rfl⟩,rfl,rfl⟩,by show(6:Int)≠3;decide,fun _=>by show ¬ 0<(Bz [102,97,108,115,101]).1;decide⟩,rfl,rfl,rfl⟩
theorem postL_stop{us:List Tok}{j:Nat}{y:Ad}{u:Tok}(hu:us[j]?=some u)(hd:isB u true [[46]]=false):Run us (body (.postL y)) ⟨j,true⟩ (.e y) ⟨j,true⟩:=by
 refine .look hu ?_;simp only;rw[hd,if_neg dC];exact .retE
theorem appL_stop{us:List Tok}{j:Nat}{y:Ad}{u:Tok}(hu:us[j]?=some u)(hb:Di u true=false):Run us (body (.appL y)) ⟨j,true⟩ (.e y) ⟨j,true⟩:=by
 refine .look hu ?_;simp only;rw[hb,if_neg dC];exact .retE
theorem app_of{us:List Tok}{i j k:Nat}{y z:Ad}{t:Tok}(ht:us[i]?=some t)(hf:Fi3 t)(hp:Run us (body .post) ⟨i,true⟩ (.e y) ⟨j,true⟩)(hl:Run us (body (.appL y)) ⟨j,true⟩ (.e z) ⟨k,true⟩):Run us (body .app) ⟨i,true⟩ (.e z) ⟨k,true⟩:=by
 refine .look ht ?_;simp only;have h3:(true&&t.k==3)=false:=by rw[Bool.true_and];exact bN.2 hf.tag
 have h6:(true&&t.k==6&&decide (0<(Bz t.text).1))=false:=by
  rw[Bool.true_and,Bool.and_eq_false_iff];by_cases e:t.k=6
  ·exact .inr (by rw[decide_eq_false_iff_not];exact hf.op e)
  ·exact .inl (bN.2 e)
 rw[h3,if_neg dC,h6,if_neg dC];exact .callE hp (.callE hl .retE)
theorem un_of{us:List Tok}{i j:Nat}{y:Ad}{t:Tok}(ht:us[i]?=some t)(hf:Fi2 t)(ha:Run us (body .app) ⟨i,true⟩ (.e y) ⟨j,true⟩):Run us (body .unary) ⟨i,true⟩ (.e y) ⟨j,true⟩:=by
 refine .look ht (Run.mayN ht hf.neg ?_);rw[if_neg dC];refine Run.mayN ht hf.not_ ?_;rw[if_neg dC];exact .callE ha .retE
theorem item_of{us:List Tok}{i:Nat}{t:Tok}(ht:us[i]?=some t)(hf:Fi1 t){r:Rs}{st':St}(hr:Run us (.callE .or fun a => .look fun t _=>Ed [58,61] fun b=>if b=true then .callE .item fun c => .retE (opE 12 t.at' [a,c])else .retE a) ⟨i,true⟩ r st'):Run us (body .item) ⟨i,true⟩ r st':=by
 refine .look ht (Run.mayN ht hf.let_ ?_);rw[if_neg dC];refine .look ht ?_;simp only;rw[hf.fun_,if_neg dC];refine Run.mayN ht hf.match_ ?_;rw[if_neg dC];refine Run.mayN ht hf.try_ ?_;rw[if_neg dC];refine Run.mayN ht hf.if_ ?_;rw[if_neg dC];refine Run.mayN ht hf.raise_ ?_;rw[if_neg dC];exact hr
theorem up1{us:List Tok}{i j:Nat}{x:Ad}{t u:Tok}(ht:us[i]?=some t)(hf:Fi1 t)(hu:us[j]?=some u):∀ {L:Nat},L<7→isB u true (sgOf L)=false→Run us (body (Xu (L+1))) ⟨i,true⟩ (.e x) ⟨j,true⟩→Run us (body (Xu L)) ⟨i,true⟩ (.e x) ⟨j,true⟩
 | 0,_,hb,hr=>by
  exact qq209
 | 1,_,hb,hr=>by
  refine item_of ht hf (.callE hr (.look hu (Run.mayN hu hb ?_)))
  rw[if_neg dC];exact .retE
 | 2,_,hb,hr=>by
  exact qq209
 | 3,_,hb,hr=>by
  exact qq209
 | 4,_,hb,hr=>by
  refine .callE hr (.look hu ?_);simp only
  rw[show isB u true [[61],[60]]=false from hb,if_neg dC];exact .retE
 | 5,_,hb,hr=>by
  refine .callE hr (.callE (.look hu ?_) .retE);simp only
  rw[show isB u true [[43],[45]]=false from hb,if_neg dC];exact .retE
 | 6,_,hb,hr=>by
  refine .callE hr (.callE (.look hu ?_) .retE);simp only
  rw[show isB u true [[42],[47],[37]]=false from hb,if_neg dC];exact .retE
 | _+7,h,_,_=>by omega
theorem upN{us:List Tok}{i j:Nat}{x:Ad}{t u:Tok}{l:Nat}(ht:us[i]?=some t)(hf:Fi1 t)(hu:us[j]?=some u)(hs:Stop u l)(L:Nat)(hL:l≤L):∀ (n:Nat),L+n≤7→Run us (body (Xu (L+n))) ⟨i,true⟩ (.e x) ⟨j,true⟩→Run us (body (Xu L)) ⟨i,true⟩ (.e x) ⟨j,true⟩
 | 0,_,hr=>hr
 | n+1,h,hr=>upN ht hf hu hs L hL n oM (up1 ht hf hu oM (hs.lv _ oM oM) hr)
theorem up{us:List Tok}{i j:Nat}{x:Ad}{t u:Tok}{l:Nat}(ht:us[i]?=some t)(hf:Fi1 t)(hu:us[j]?=some u)(hs:Stop u l)(L M:Nat)(hL:l≤L)(hM:L≤M)(h7:M≤7)(hr:Run us (body (Xu M)) ⟨i,true⟩ (.e x) ⟨j,true⟩):Run us (body (Xu L)) ⟨i,true⟩ (.e x) ⟨j,true⟩:=
 upN ht hf hu hs L hL (M-L) oM (by rw[show L+(M-L)=M by omega];exact hr)
theorem up_post{us:List Tok}{i j:Nat}{x:Ad}{t u:Tok}{l:Nat}(ht:us[i]?=some t)(hf:Fi4 t)(hu:us[j]?=some u)(hs:Stop u l)(L:Nat)(hL:l≤L)(h7:L≤7)(hr:Run us (body .post) ⟨i,true⟩ (.e x) ⟨j,true⟩):Run us (body (Xu L)) ⟨i,true⟩ (.e x) ⟨j,true⟩:=
 up ht hf.three.two.one hu hs L 7 hL h7 (Nr' _) (un_of ht hf.three.two (app_of ht hf.three hr (appL_stop hu hs.beg)))
theorem nth_app{α:Type}{a b:List α}{j:Nat}{q:α}(h:b[j]?=some q):(a++b)[a.length+j]?=some q:=by
 rw[List.getElem?_append_right oM,Nat.add_sub_cancel_left];exact h
theorem L5.mid{us:List Tok}{i:Nat}{a b:List Sp}{q:Sp}(h:L5 us i (a++q::b)):∃ c,us[i+a.length]?=some ⟨q.1,c,q.2.1,q.2.2⟩:=h a.length q (by have:=nth_app (a:=a) (b:=q::b) (j:=0) rfl;simpa only[Nat.add_zero] using this)
theorem body_recP(a:Int)(ls:List LB)(args:List Al):Dd (.recL a ls args)=Hq fun x=>Ch [61] (.callP .pat fun p=>Ed [44] fun b=>if b=true then .callP (.recL a (ls++[x]) (args++[p])) .retP else Ch [125] (.retP (.mk 9 a [] 0 [] (ls++[x]) (args++[p])))):=rfl
theorem body_recE(a:Int)(ls:List LB)(args:List Ad):body (.recL a ls args)=Hq fun nm=>Ch [61] (.callE .seq fun x=>Ed [44] fun b=>if b=true then .callE (.recL a (ls++[nm]) (args++[x])) .retE else Ch [125] (.retE (.mk 12 a [] 0 [] (ls++[nm]) (args++[x]) []))):=rfl
theorem Wm(a:Int):body (.braces a)=Ed [125] fun b=>if b=true then .retE (.mk 12 a [] 0 [] [] [] [])else
  .ahead fun n => .look fun t ok=>if (t.k==1&&(n.k==7&&n.text==[61]))=true then (if ok=true then .callE (.recL a [] []) .retE else Ch [125] (.retE (.mk 12 a [] 0 [] [] [] [])))else
   .callE .seq fun x=>Ch [119,105,116,104] (Hq fun nm=>Ch [61] (.callE .seq fun y=>Ch [125] (.retE (.mk 13 a nm 0 [] [] [x,y] [])))):=rfl
theorem Wo(a:Int):Dd (.marked (.mk 0 a [] 0 [] [] []))=Ed [45] fun b=>if b=true then (.look fun t ok=>if t.k=4 then (if ok=true then .adv (.retP (.mk 3 a [] (wrap64 (-t.n)) [] [] []))else .retP (.mk 3 a [] (wrap64 (-t.n)) [] [] []))else .fail (.retP (.mk 3 a [] 0 [] [] [])))else
  Ed [116,114,117,101] fun b=>if b=true then .retP (.mk 5 a [] 1 [] [] [])else
  Ed [102,97,108,115,101] fun b=>if b=true then .retP (.mk 5 a [] 0 [] [] [])else
  Ed [40] fun b=>if b=true then (Ed [41] fun b=>if b=true then .retP (.mk 6 a [] 0 [] [] [])else .callP .pat fun x=>Ch [41] (.retP x))else
  Ed [123] fun b=>if b=true then (Ed [125] fun b=>if b=true then .retP (.mk 9 a [] 0 [] [] [])else .look fun _ ok=>if ok=true then .callP (.recL a [] []) .retP else Ch [125] (.retP (.mk 9 a [] 0 [] [] [])))else
  .fail (.retP (.mk 0 a [] 0 [] [] [])):=rfl
def S8(sh:List Sp):Prop:=∃ q r,sh=q::r∧∀ a,Fi4 ⟨q.1,a,q.2.1,q.2.2⟩
def NoEq(sh:List Sp):Prop:=∀ nm n q r,sh=((1,nm,n):Sp)::q::r→q.2.1≠[61]
theorem S8.app{a:List Sp}(h:S8 a)(b:List Sp):S8 (a++b):=by
 obtain⟨q,r,rfl,hq⟩:=h;exact⟨q,r++b,rfl,hq⟩
theorem S8.at_{sh r:List Sp}(h:S8 sh){us:List Tok}{i:Nat}(hs:L5 us i (sh++r)):∃ t,us[i]?=some t∧Fi4 t:=by
 obtain⟨q,r',rfl,hq⟩:=h;obtain⟨a,ha⟩:=L5.head (b:=r'++r) hs;exact⟨_,ha,hq a⟩
theorem S8.pos{sh:List Sp}(h:S8 sh):1≤sh.length:=by
 obtain⟨q,r,rfl,_⟩:=h;simp
theorem Wz:∀ (N:Nat)(x:Ad),szE x<N→Bh x=true→S8 (tkE x)∧NoEq (tkE x)
 | 0,_,h,_=>absurd h (Nat.not_lt_zero _)
 | N+1,.mk k a nm n s ls args arms,hlt,hm=>by
  have hsz:szE (.mk k a nm n s ls args arms)=1+(Bk args+B1 arms):=by simp[szE]
  rw[Bh,Ba',Ba'] at hm;obtain⟨⟨hf,hm⟩,_⟩:=hm;rw[tkE]
  have op:∀ (z:List Sp),S8 (G [40]::z)∧NoEq (G [40]::z):=fun z=>⟨⟨_,_,rfl,fun a=>fi4_open a 0⟩,fun _ _ _ _ e=>by cases e⟩
  generalize hna:args.length=na at hf;generalize arms.length=ma at hf;generalize Er args=k0 at hf
  cases frmE_of hf with
  | var h=>exact⟨⟨_,_,rfl,fun a=>Oh (.inl rfl)⟩,fun _ _ _ _ e=>by cases e⟩
  | int h=>exact⟨⟨_,_,rfl,fun a=>Oh sM⟩,fun _ _ _ _ e=>by cases e⟩
  | str=>exact⟨⟨_,_,rfl,fun a=>Oh sM⟩,fun _ _ _ _ e=>by cases e⟩
  | bool h =>
   rcases h with rfl|rfl
   ·exact⟨⟨_,_,rfl,fun a=>fi4_false a 0⟩,fun _ _ _ _ e=>by cases e⟩
   ·exact⟨⟨_,_,rfl,fun a=>fi4_true a 0⟩,fun _ _ _ _ e=>by cases e⟩
  | unit=>exact op _
  | exn h=>exact⟨⟨_,_,rfl,fun a=>Oh sM⟩,fun _ _ _ _ e=>by cases e⟩
  | fn h=>exact op _
  | app=>exact op _
  | let_ h=>exact op _
  | rec_ h hk=>exact op _
  | if_=>exact op _
  | record h=>exact⟨⟨_,_,rfl,fun a=>Ts a 0⟩,fun _ _ _ _ e=>by cases e⟩
  | with_ h=>exact⟨⟨_,_,rfl,fun a=>Ts a 0⟩,fun _ _ _ _ e=>by cases e⟩
  | field h =>
   obtain⟨x0,rfl⟩:=Lu hna;obtain⟨h1,h2⟩:=Wz N x0 (by have:=Kd (l:=[x0]) (i:=0) rfl;omega) (Ek hm 0 x0 rfl);have e:Hu 14 nm 0 [] [] (Kf [x0]) (tkAs arms)=tkE x0++[G [46],(1,nm,0)]:=by simp[Hu,Kf]
   rw[e];refine⟨h1.app _,fun nm2 n2 q r hq=>?_⟩;obtain⟨q0,r0,hq0,_⟩:=h1;rw[hq0] at hq h2
   cases r0 with
   | nil=>simp at hq;rw[← hq.2.1];decide
   | cons q1 r1 =>
    simp at hq
    exact h2 nm2 n2 q r1 (by rw[hq.1,hq.2.1])
  | tag h=>exact op _
  | match_ h=>exact op _
  | try_ h=>exact op _
  | raise_=>exact op _
  | op h=>exact op _
  | seq=>exact op _
  | and_=>exact op _
  | or_=>exact op _
def PostR(x:Ad):Prop:=∀ (us:List Tok)(i:Nat),Nl us→L5 us i (tkE x)→∃ y,Ds x y∧∀ z st',Run us (body (.postL y)) ⟨i+(tkE x).length,true⟩ (.e z) st'→Run us (body .post) ⟨i,true⟩ (.e z) st'
structure Ok (x:Ad):Prop where
 post:PostR x
 hd:S8 (tkE x)
 ne:NoEq (tkE x)
theorem Ok.run{x:Ad}(h:Ok x){us:List Tok}{i:Nat}(hE:Nl us){q:Sp}{r:List Sp}(hs:L5 us i (tkE x++q::r))(hd:∀ a,isB ⟨q.1,a,q.2.1,q.2.2⟩ true [[46]]=false):∃ y,Ds x y∧Run us (body .post) ⟨i,true⟩ (.e y) ⟨i+(tkE x).length,true⟩:=by
 obtain⟨y,hy,hr⟩:=h.post us i hE hs.left;obtain⟨a,ha⟩:=hs.mid;exact⟨y,hy,hr _ _ (postL_stop ha (hd a))⟩
theorem Ok.at_{x:Ad}(h:Ok x){us:List Tok}{i:Nat}(hE:Nl us){q:Sp}{r:List Sp}(hs:L5 us i (tkE x++q::r)){l:Nat}(hst:∀ a,Stop ⟨q.1,a,q.2.1,q.2.2⟩ l)(L:Nat)(hL:l≤L)(h7:L≤7):∃ y,Ds x y∧Run us (body (Xu L)) ⟨i,true⟩ (.e y) ⟨i+(tkE x).length,true⟩:=by
 obtain⟨y,hy,hr⟩:=h.run hE hs (fun a=>(hst a).dot);obtain⟨a,ha⟩:=hs.mid;obtain⟨t,ht,hf⟩:=h.hd.at_ hs;exact⟨y,hy,up_post ht hf ha (hst a) L hL h7 hr⟩
section
attribute [local go_sem ↓] Go.wp_at_zero Go.wp_at_succ
structure TSt (w0:World)(P:Nat)(A:Option Addr)(w:World)(eo:Obj)(t:Array Value)(S:Sc)(A1:Option Addr)(c1:Nat)(x:World):Prop where
 e:x.heap[w.heap.size]?=some eo
 r:x.heap[w.heap.size+1]?=some Dj
 t:x.heap[w.heap.size+1+1]?=some (.cells t 34 (0,0))
 st:Stp w0 P A w S A1 c1 x
 ap:∀ a,A1=some a→a.block<w.heap.size∨w.heap.size+3≤a.block
 sz:w.heap.size+3≤x.heap.size
theorem TSt.start{w0 w:World}{P:Nat}{S:Sc}{A:Option Addr}{c:Nat}(h:Dg w0 P S A c w)(eo:Obj)(t:Array Value):TSt w0 P A w eo t S A c (((w.alloc eo).alloc Dj).alloc (.cells t 34 (0,0))):=by
 obtain⟨g0,g1,g2,f0,z0⟩:=Gy w eo Dj (.cells t 34 (0,0));exact⟨g0,g1,g2,(Stp.refl h).fr0 f0,fun a e => .inl (h.own_lt a e),by unfold Lw at z0;omega⟩
section
variable {w0 w x x':World} {P:Nat} {A A1 A2:Option Addr} {S1 S2:Sc} {c1 c2:Nat} {eo:Obj} {t t':Array Value}
theorem TSt.out(h:TSt w0 P A w eo t S1 A1 c1 x)(hP:P<w.heap.size){k:Nat}(h1:w.heap.size≤k)(h2:k<w.heap.size+3):k ∉ scL P A1:=fun hx=>by
 rcases Ay.1 hx with e|⟨a,e,e2⟩
 ·omega
 ·have:=h.ap a e;omega
theorem TSt.step(h:TSt w0 P A w eo t S1 A1 c1 x)(hP:P<w.heap.size)(k:Stp w0 P A1 x S2 A2 c2 x'):TSt w0 P A w eo t S2 A2 c2 x' :=
 ⟨k.2.1.keep h.e (h.out hP oM oM),k.2.1.keep h.r (h.out hP oM oM),k.2.1.keep h.t (h.out hP oM oM),h.st.trans k,fun a e=>by
  rcases k.2.2 a e with h1|h1
  ·exact h.ap a h1
  ·have:=h.sz;omega,by have:=h.sz;have:=k.2.1.size;omega⟩
theorem TSt.fr0(h:TSt w0 P A w eo t S1 A1 c1 x)(f:Fr [] x x'):TSt w0 P A w eo t S1 A1 c1 x' :=
 ⟨f.keep h.e (fun x=>by cases x),f.keep h.r (fun x=>by cases x),f.keep h.t (fun x=>by cases x),h.st.fr0 f,h.ap,by have:=h.sz;have:=f.size;omega⟩
theorem TSt.setT(h:TSt w0 P A w eo t S1 A1 c1 x)(hP:P<w.heap.size)(h0:w0.heap.size≤w.heap.size)(f:Fr [w.heap.size+1+1] x x')(ht:x'.heap[w.heap.size+1+1]?=some (.cells t' 34 (0,0))):TSt w0 P A w eo t' S1 A1 c1 x' :=
 ⟨f.keep h.e sO,f.keep h.r sM,ht,h.st.fresh f sO (fun a e=>by have:=h.ap a e;simp;omega) h0 (fun y hy=>by simp at hy;omega),h.ap,by have:=h.sz;have:=f.size;omega⟩
theorem TSt.set(h:TSt w0 P A w eo t S1 A1 c1 x)(hP:P<w.heap.size)(h0:w0.heap.size≤w.heap.size)(i:Nat)(v:Value):TSt w0 P A w eo (t.setIfInBounds i v) S1 A1 c1 (x.setCell ⟨w.heap.size+1+1,i,none⟩ v):=
 h.setT hP h0 ((Fr.refl _ x).setCell (p:=⟨w.heap.size+1+1,i,none⟩) (.inl sM) v) (by simp[World.setCell,Array.getElem?_modify,h.t])
theorem TSt.rows(h:TSt w0 P A w eo t S1 A1 c1 x)(i:Nat)(v:Value):Fr [w.heap.size+1+1] x (x.setCell ⟨w.heap.size+1+1,i,none⟩ v):=(Fr.refl _ x).setCell (p:=⟨w.heap.size+1+1,i,none⟩) (.inl sM) v
theorem Mn{B:Nat}(hB:w.heap.size+3≤B)(i:Nat)(v:Value):Sh x (x.setCell ⟨w.heap.size+1+1,i,none⟩ v) (TOk B A1) (TOk B A1):=fun b hb hlt=>by
 have f:Fr [w.heap.size+1+1] x (x.setCell ⟨w.heap.size+1+1,i,none⟩ v):=(Fr.refl _ x).setCell (p:=⟨w.heap.size+1+1,i,none⟩) (.inl sM) v;exact⟨hb,f.block b hlt (by have:=hb.1;simp;omega),Nl' hlt f.size⟩
end
theorem Fr.both{L:List Nat}{x z:World}(f:Fr L x z)(hs:z.heap.size=x.heap.size)(O:Obj):Fr L (x.alloc O) (z.alloc O):=
 ⟨f.os,f.tape,f.output,by simp;omega,fun k hk hn=>by
  simp only[World.size_alloc] at hk
  by_cases h:k<x.heap.size
  ·exact(Below.heap_alloc z O _ oM).trans ((f.block k h hn).trans (Below.heap_alloc x O _ h).symm)
  ·have e:k=x.heap.size:=by omega
   subst e
   have h1:=Ag x O
   have h2:=Ag z O
   rw[hs] at h2
   exact h2.trans h1.symm⟩
theorem cells14{x:World}{B:Nat}{T:TypeId}{a0 a1 a2 a3 a4 a5 a6 a7 a8 a9 a10 a11 a12 a13:Value}(h:x.heap[B]?=some (.cells #[a0,a1,a2,a3,a4,a5,a6,a7,a8,a9,a10,a11,a12,a13] T (0,0))):x.cell? ⟨B,0,none⟩=some a0∧x.cell? ⟨B,1,none⟩=some a1∧x.cell? ⟨B,2,none⟩=some a2∧x.cell? ⟨B,3,none⟩=some a3∧x.cell? ⟨B,4,none⟩=some a4∧x.cell? ⟨B,5,none⟩=some a5∧x.cell? ⟨B,6,none⟩=some a6∧x.cell? ⟨B,7,none⟩=some a7∧x.cell? ⟨B,8,none⟩=some a8∧x.cell? ⟨B,9,none⟩=some a9∧x.cell? ⟨B,10,none⟩=some a10∧x.cell? ⟨B,11,none⟩=some a11∧x.cell? ⟨B,12,none⟩=some a12∧x.cell? ⟨B,13,none⟩=some a13 :=
 ⟨Ab h 0,Ab h 1,Ab h 2,Ab h 3,Ab h 4,Ab h 5,Ab h 6,Ab h 7,Ab h 8,Ab h 9,Ab h 10,Ab h 11,Ab h 12,Ab h 13⟩
theorem Rt{x:World}{D E:Nat}{T1 T2:TypeId}{a0 a1 a2 a3 a4 a5 a6 a7 b0 b1 b2 b3 b4 b5 b6 b7:Value}(h:x.heap[D]?=some (.cells #[a0,a1,a2,a3,a4,a5,a6,a7] T1 (0,0)))(k:x.heap[E]?=some (.cells #[b0,b1,b2,b3,b4,b5,b6,b7] T2 (0,0))){Q:Prop}(hq:Q):x.cell? ⟨D,0,none⟩=some a0∧x.cell? ⟨D,1,none⟩=some a1∧x.cell? ⟨D,2,none⟩=some a2∧x.cell? ⟨D,3,none⟩=some a3∧x.cell? ⟨D,4,none⟩=some a4∧x.cell? ⟨D,5,none⟩=some a5∧x.cell? ⟨D,6,none⟩=some a6∧x.cell? ⟨D,7,none⟩=some a7∧x.cell? ⟨E,6,none⟩=some b6∧Q:=by
 obtain⟨⟨h0,h1,h2,h3,h4,h5,h6,h7⟩,_⟩:=Ac h;obtain⟨⟨k0,k1,k2,k3,k4,k5,k6,k7⟩,_⟩:=Ac k;exact⟨h0,h1,h2,h3,h4,h5,h6,h7,k6,hq⟩
theorem TSt.fin{w0 w x y:World}{P:Nat}{A A1:Option Addr}{S1:Sc}{c1:Nat}{eo:Obj}{t:Array Value}{k a v n:Int}{s:Array UInt8}{A5 A6 A7:Option Addr}{n5 n6 n7 d5 d6 d7:Nat}{X:At}(h:TSt w0 P A w eo t S1 A1 c1 x)(hP:P<w.heap.size)(h0:w0.heap.size≤w.heap.size)(hF:Fr [w.heap.size+1,w.heap.size+1+1] x y)
  (hX:Au x (TOk (w.heap.size+3) A1) X [vI k,vI a,vI v,vI n,.string ⟨s⟩,.slice A5 n5 d5,.slice A6 n6 d6,.slice A7 n7 d7]):
  Wd w0 P A w X S1 (.returned (.agg #[vI k,vI a,vI v,vI n,.string ⟨s⟩,.slice A5 n5 d5,.slice A6 n6 d6,.slice A7 n7 d7])) y:=by
 refine⟨_,_,_,_,_,_,_,_,_,_,_,_,_,_,A1,c1,rfl,hX.keep (fun b hb hlt=>⟨⟨by have:=hb.1;omega,hb.2⟩,hF.block b hlt (by have:=hb.1;simp;omega),Nl' hlt hF.size⟩),?_⟩;exact h.st.fresh hF sO (fun a e=>by have:=h.ap a e;simp;omega) h0 (fun y hy=>by simp at hy;omega)
theorem TSt.app{w0 w y w9:World}{P:Nat}{A A1:Option Addr}{S1:Sc}{c1:Nat}{eo:Obj}{t:Array Value}{α:Type}{E:World→(Nat→Prop)→α→List Value→Prop}{T size:Nat}{V V':Value}{xs:List α}{cs:Nat→List Value}{x:α}{C:List Value}{okx:Nat→Prop}(h:TSt w0 P A w eo t S1 A1 c1 y)(hP:P<w.heap.size)(h0:w0.heap.size≤w.heap.size)(hK:Fy E)
  (hr:An E T size y (TOk (w.heap.size+3) A1) V xs cs) (hx:E y okx x C) (hl:C.length=size) (hav:∀ b,okx b→b<y.heap.size→TOk (w.heap.size+3) A1 b∧V.ownBlock≠some b) (hown:w9.ownsRow 0 T size V' (xs.length+1) (Co cs xs.length++C)) (hgrow:y.grownBy w9 V.ownBlock) (hfp:Qb V V' y.heap.size):
  An E T size w9 (TOk (w.heap.size+3) A1) V' (xs++[x]) (fun i=>if i=xs.length then C else cs i)∧TSt w0 P A w eo t S1 A1 c1 w9:=by
 have hf:Fr V.ownBlock.toList y w9:=(Fr.refl V.ownBlock.toList y).grown hgrow (fun k e => .inl (by rw[e];simp))
 have hb:∀ k ∈ V.ownBlock.toList,w.heap.size+3≤k∧∀ a,A1=some a→a.block≠k:=fun k hk=>by
  simp only[Option.mem_toList] at hk;exact hr.blk k hk
 have hsz:=h.sz;refine⟨hr.app hK hx hl hav hown hgrow hfp (fun b hb=>⟨oM,fun a e h'=>by have:=h.st.1.own_lt a e;omega⟩),hf.keep h.e (fun hx=>by have:=hb _ hx;omega),hf.keep h.r (fun hx=>by have:=hb _ hx;omega),hf.keep h.t (fun hx=>by have:=hb _ hx;omega),h.st.fresh hf (fun hx=>by have:=hb _ hx;omega) (fun a e hx=>(hb _ hx).2 a e rfl) h0 (fun k hk=>by have:=hb k hk;omega),h.ap,by have:=hf.size;omega⟩
theorem Au.told{x:World}{ok:Nat→Prop}{X:At}{C:List Value}(h:Au x ok X C):∃ k a v n s A5 n5 c5 A6 n6 c6 A7 n7 c7,C=[vI k,vI a,vI v,vI n,.string ⟨s⟩,.slice A5 n5 c5,.slice A6 n6 c6,.slice A7 n7 c7]:=by
 cases h with
 | mk c5 c6 cp ce h5 e5 h6 e6 h7 e7 e8 =>
  obtain⟨A5,cc5,r5⟩:=h5.form;obtain⟨A6,cc6,r6⟩:=h6.form;obtain⟨A7,cc7,r7⟩:=h7.form;subst r5 r6 r7;exact⟨_,_,_,_,_,_,_,_,_,_,_,_,_,_,rfl⟩
theorem row_three{x:World}{B:Nat}{A1:Option Addr}{X Y Z:At}{C D F:List Value}(hX:Au x (TOk B A1) X C)(hY:Au x (TOk B A1) Y D)(hZ:Au x (TOk B A1) Z F)(hB:B≤x.heap.size)(hA:∀ a,A1=some a→a.block<x.heap.size):J2 (x.alloc (.cells (C++D++F).toArray 34)) (TOk B A1) (.slice (some ⟨x.heap.size,0,none⟩) 3 3) [X,Y,Z] (fun i=>if i=0 then C else if i=1 then D else F):=by
 have hok:TOk B A1 x.heap.size:=⟨hB,fun a e h=>by have:=hA a e;omega⟩
 refine⟨?_,fun i hi=>by split;exact hX.len;split;exact hY.len;exact hZ.len,fun g hg=>?_,fun i z hz=>?_⟩
 ·have:=World.ownsRow_lit (base:=0) (e:=34) (size:=8) x (C++D++F).toArray 3 (Nat.zero_le _) dC (by simp[hX.len,hY.len,hZ.len]);simpa [Co,List.range_succ] using this
 ·simp[Value.ownBlock] at hg;subst hg;exact hok
 ·have hs:Sh x (x.alloc (.cells (C++D++F).toArray 34)) (TOk B A1) (fun b=>TOk B A1 b∧(Value.slice (some ⟨x.heap.size,0,none⟩) 3 3).ownBlock≠some b):=fun b hb hlt=>⟨⟨hb,by simp[Value.ownBlock];omega⟩,Below.heap_alloc _ _ _ hlt,by simp;omega⟩
  match i,hz with
  | 0,hz=>simp at hz;subst hz;exact hX.keep hs
  | 1,hz=>simp at hz;subst hz;exact hY.keep hs
  | 2,hz=>simp at hz;subst hz;exact hZ.keep hs
  | i+3,hz=>simp at hz
theorem V7.at{w0 x:World}{g o:Nat}{k a:Int}{nm:LB}{n:Int}{s:LB}{v5 v6 v7:Value}(h:V7 w0 g o k a nm n s v5 v6 v7)(hg:g<w0.heap.size)(f:Fr [] w0 x):V7 x g o k a nm n s v5 v6 v7:=by
 obtain⟨h0,h1,h2,h3,h4,h5,h6,h7⟩:=h;have q:=fun(j:Nat)=>f.cell (p:=⟨g,j,none⟩) hg (fun x=>by cases x)
 exact⟨(q _).trans h0,(q _).trans h1,(q _).trans h2,(q _).trans h3,(q _).trans h4,(q _).trans h5,(q _).trans h6,(q _).trans h7⟩
theorem I0{w0:World}{ok:Nat→Prop}{A6:Option Addr}{m c6:Nat}{args:List Ad}{d6:Nat→List Value}(h6:En w0 ok (.slice A6 m c6) args.length 8 d6)(e6:∀ (i:Nat)(x:Ad),args[i]?=some x→Ak w0 ok x (d6 i)){i:Nat}{x:Ad}(hx:args[i]?=some x):
  ∃ g o k a nm n s ls args' arms A5 c5 A6' c6' A7 c7,A6=some ⟨g,o,none⟩∧g<w0.heap.size∧x = .mk k a nm n s ls args' arms∧Ak w0 ok (.mk k a nm n s ls args' arms) [vI k,vI a,vS nm,vI n,vS s,.slice A5 ls.length c5,.slice A6' args'.length c6',.slice A7 arms.length c7]∧V7 w0 g (o+i * 8) k a nm n s (.slice A5 ls.length c5) (.slice A6' args'.length c6') (.slice A7 arms.length c7):=by
 obtain⟨g,o,e,hg,hc⟩:=h6.elem (Fr.refl [] w0) (List.getElem?_eq_some_iff.1 hx).1;obtain⟨k,a,nm,n,s,ls,args',arms,A5,c5,A6',c6',A7,c7,e1,h1,h2⟩:=(e6 i x hx).told hc;exact⟨g,o,k,a,nm,n,s,ls,args',arms,A5,c5,A6',c6',A7,c7,e,hg,e1,h1,h2⟩
theorem row_one{x:World}{B:Nat}{A1:Option Addr}{X:At}{C:List Value}(hX:Au x (TOk B A1) X C)(hB:B≤x.heap.size)(hA:∀ a,A1=some a→a.block<x.heap.size):J2 (x.alloc (.cells C.toArray 34)) (TOk B A1) (.slice (some ⟨x.heap.size,0,none⟩) 1 1) [X] (fun _=>C):=
 An.lit D9 hX hX.len ⟨hB,fun a e h=>by have:=hA a e;omega⟩
theorem Qt{x:World}{B:Nat}{A1:Option Addr}{X Y:At}{C D:List Value}(hX:Au x (TOk B A1) X C)(hY:Au x (TOk B A1) Y D)(hB:B≤x.heap.size)(hA:∀ a,A1=some a→a.block<x.heap.size):J2 (x.alloc (.cells (C++D).toArray 34)) (TOk B A1) (.slice (some ⟨x.heap.size,0,none⟩) 2 2) [X,Y] (fun i=>if i=0 then C else D):=
 An.lit2 D9 hX hY hX.len hY.len ⟨hB,fun a e h=>by have:=hA a e;omega⟩
theorem Fs{k a:Int}{nm:LB}{n:Int}{s:LB}{ls:List LB}{args:List Ad}{arms:List (Al×Ad)}(hm:Bh (.mk k a nm n s ls args arms)=true):D3 k nm n s ls args.length arms.length (Er args)=true∧Ax args=true∧Bd arms=true:=by
 rw[Bh,Ba',Ba'] at hm;exact⟨hm.1.1,hm.1.2,hm.2⟩
theorem Jv{k n k0:Int}{nm s:LB}{ls:List LB}{na ma:Nat}{h:Lm}(hh:Cc k n ls.length=some h)(hf:D3 k nm n s ls na ma k0=true):na=h.args:=by
 unfold D3 at hf;rw[hh] at hf;simp only[Ah,Ba',beq_iff_eq] at hf;exact hf.1.1.2
theorem else_kind{k n k0:Int}{nm s:LB}{ls:List LB}{na ma:Nat}(hf:D3 k nm n s ls na ma k0=true)(hk:¬ (k=1∨k=7∨k=9∨k=20∨k=10∨k=12∨k=16∨k=17∨k=21∨k=22)):k ∈ plK:=by
 by_cases h:k ∈ plK
 ·exact h
 ·exfalso;simp only[plK,List.mem_cons,List.not_mem_nil,or_false] at h
  have hn:Cc k n ls.length=none:=by
   unfold Cc;rw[if_neg oM,if_neg oM,if_neg oM,if_neg oM,if_neg oM,if_neg oM,if_neg oM,if_neg oM,if_neg oM,if_neg oM,if_neg oM,if_neg oM]
  unfold D3 at hf;rw[hn] at hf;cases hf
theorem TSt.e6{w0 w x:World}{P:Nat}{A A1:Option Addr}{S1:Sc}{c1:Nat}{t:Array Value}{b0 b1 b2 b3 b4 b5 b6 b7:Value}{T2:TypeId}(h:TSt w0 P A w (.cells #[b0,b1,b2,b3,b4,b5,b6,b7] T2 (0,0)) t S1 A1 c1 x):x.cell? ⟨w.heap.size,6,none⟩=some b6∧x.cell? ⟨w.heap.size,1,none⟩=some b1:=by
 obtain⟨⟨k0,k1,k2,k3,k4,k5,k6,k7⟩,_⟩:=Ac h.e;exact⟨k6,k1⟩
theorem Sl{v x1:World}{B Q:Nat}{A A':Option Addr}(h:Sh v x1 (TOk B A) (TOk B A')):Sh v x1 (LOk B Q A) (LOk B Q A'):=fun b hb hlt=>⟨⟨(h b hb.1 hlt).1,hb.2⟩,(h b hb.1 hlt).2⟩
theorem sh_grow{y w9:World}{B Q:Nat}{A:Option Addr}{V:Value}(hg:y.grownBy w9 V.ownBlock)(hV:∀ g,V.ownBlock=some g→Q≤g):Sh y w9 (LOk B Q A) (LOk B Q A):=fun b hb hlt=>⟨hb,hg.block b hlt (fun e=>by have:=hV b e.symm;have:=hb.2;omega),Nl' hlt hg.size⟩
theorem Y1{x:World}{E D F:Nat}{T1 T2 T3:TypeId}{a0 a1 a2 a3 a4 a5 a6 a7 b0 b1 b2 b3 b4 b5 b6 b7 d0 d1 d2 d3 d4 d5 d6 d7 d8 d9 d10 d11 d12 d13:Value}(h:x.heap[E]?=some (.cells #[a0,a1,a2,a3,a4,a5,a6,a7] T1 (0,0)))(k:x.heap[D]?=some (.cells #[b0,b1,b2,b3,b4,b5,b6,b7] T2 (0,0)))(l:x.heap[F]?=some (.cells #[d0,d1,d2,d3,d4,d5,d6,d7,d8,d9,d10,d11,d12,d13] T3 (0,0))):x.cell? ⟨E,1,none⟩=some a1∧x.cell? ⟨E,7,none⟩=some a7∧x.cell? ⟨D,0,none⟩=some b0∧x.cell? ⟨D,1,none⟩=some b1∧x.cell? ⟨D,2,none⟩=some b2∧x.cell? ⟨D,3,none⟩=some b3∧x.cell? ⟨D,4,none⟩=some b4∧x.cell? ⟨D,5,none⟩=some b5∧x.cell? ⟨D,6,none⟩=some b6∧x.cell? ⟨D,7,none⟩=some b7∧x.cell? ⟨F,0,none⟩=some d0∧x.cell? ⟨F,1,none⟩=some d1∧x.cell? ⟨F,2,none⟩=some d2∧x.cell? ⟨F,3,none⟩=some d3∧x.cell? ⟨F,4,none⟩=some d4∧x.cell? ⟨F,5,none⟩=some d5∧x.cell? ⟨F,6,none⟩=some d6∧x.cell? ⟨F,7,none⟩=some d7∧x.cell? ⟨F,8,none⟩=some d8∧x.cell? ⟨F,9,none⟩=some d9∧x.cell? ⟨F,10,none⟩=some d10∧x.cell? ⟨F,11,none⟩=some d11∧x.cell? ⟨F,12,none⟩=some d12∧x.cell? ⟨F,13,none⟩=some d13:=by
 obtain⟨⟨h0,h1,h2,h3,h4,h5,h6,h7⟩,_⟩:=Ac h;obtain⟨⟨k0,k1,k2,k3,k4,k5,k6,k7⟩,_⟩:=Ac k;exact⟨h1,h7,k0,k1,k2,k3,k4,k5,k6,k7,cells14 l⟩
def Rb(N:Nat)(k:Int):Prop:=∀ (a:Int)(nm:LB)(n:Int)(s:LB)(ls:List LB)(args:List Ad)(arms:List (Al×Ad))(A5 A6 A7:Option Addr)(c5 c6 c7:Nat)(w0 w:World)(ok:Nat→Prop)(P:Nat)(S:Sc)(A:Option Addr)(c:Nat),
 szE (.mk k a nm n s ls args arms)<N→Bh (.mk k a nm n s ls args arms)=true→WlE (.mk k a nm n s ls args arms)→Ak w0 ok (.mk k a nm n s ls args arms) [vI k,vI a,vS nm,vI n,vS s,.slice A5 ls.length c5,.slice A6 args.length c6,.slice A7 arms.length c7] →
 Dg w0 P S A c w→SB S (szE (.mk k a nm n s ls args arms))→
  Calls prog 20 #[.pointer (some ⟨P,0,none⟩),.agg #[vI k,vI a,vS nm,vI n,vS s,.slice A5 ls.length c5,.slice A6 args.length c6,.slice A7 arms.length c7]] w (Wd w0 P A w (tmE (.mk k a nm n s ls args arms) S).1 (tmE (.mk k a nm n s ls args arms) S).2)
end
end Go.Proofs.YtlafbbnikgcdlaaGreatDoor
