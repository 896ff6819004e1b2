/- A part of the proof: Hb, Hc, Hd. -/
import Derived.Test.YtabhpdhajajoiaaGreatDoorEb22
namespace Go.Proofs.YtabhpdhajajoiaaGreatDoor
open Go.RowKit
set_option linter.all false
set_option maxHeartbeats 16000000
set_option maxRecDepth 100000
open List renaming cons_append→Lp',append_assoc→Ls'
open Nat renaming le_refl→Nr'
open Bool renaming and_eq_true→Ba'
theorem Av(r:LB):At (32::r)=At r:=Po r rfl
theorem B4(r:LB):Sep (32::r):=Sep.cons (by decide)
theorem Gx(r:LB):Sep (41::r):=Sep.cons (by decide)
theorem sep125(r:LB):Sep (125::r):=Sep.cons (by decide)
theorem sep44(r:LB):Sep (44::r):=Sep.cons (by decide)
theorem sep46(r:LB):Sep (46::r):=Sep.cons (by decide)
theorem sep59(r:LB):Sep (59::r):=Sep.cons (by decide)
theorem U6{r:LB}(hr:Sep r):At (108::101::116::r)=(At r).map (W [108,101,116] :: ·):=Bu (nm:=[108,101,116]) (by decide) (by decide) (by decide) hr
theorem lexW_rec{r:LB}(hr:Sep r):At (114::101::99::r)=(At r).map (W [114,101,99] :: ·):=Bu (nm:=[114,101,99]) (by decide) (by decide) (by decide) hr
theorem Yu{r:LB}(hr:Sep r):At (105::110::r)=(At r).map (W [105,110] :: ·):=Bu (nm:=[105,110]) (by decide) (by decide) (by decide) hr
theorem U5{r:LB}(hr:Sep r):At (102::117::110::r)=(At r).map (W [102,117,110] :: ·):=Bu (nm:=[102,117,110]) (by decide) (by decide) (by decide) hr
theorem Pq{r:LB}(hr:Sep r):At (109::97::116::99::104::r)=(At r).map (W [109,97,116,99,104] :: ·):=Bu (nm:=[109,97,116,99,104]) (by decide) (by decide) (by decide) hr
theorem J9{r:LB}(hr:Sep r):At (119::105::116::104::r)=(At r).map (W [119,105,116,104] :: ·):=Bu (nm:=[119,105,116,104]) (by decide) (by decide) (by decide) hr
theorem Pp{r:LB}(hr:Sep r):At (101::110::100::r)=(At r).map (W [101,110,100] :: ·):=Bu (nm:=[101,110,100]) (by decide) (by decide) (by decide) hr
theorem lexW_if{r:LB}(hr:Sep r):At (105::102::r)=(At r).map (W [105,102] :: ·):=Bu (nm:=[105,102]) (by decide) (by decide) (by decide) hr
theorem lexW_then{r:LB}(hr:Sep r):At (116::104::101::110::r)=(At r).map (W [116,104,101,110] :: ·):=Bu (nm:=[116,104,101,110]) (by decide) (by decide) (by decide) hr
theorem Z7{r:LB}(hr:Sep r):At (101::108::115::101::r)=(At r).map (W [101,108,115,101] :: ·):=Bu (nm:=[101,108,115,101]) (by decide) (by decide) (by decide) hr
theorem lexW_try{r:LB}(hr:Sep r):At (116::114::121::r)=(At r).map (W [116,114,121] :: ·):=Bu (nm:=[116,114,121]) (by decide) (by decide) (by decide) hr
theorem W8{r:LB}(hr:Sep r):At (114::97::105::115::101::r)=(At r).map (W [114,97,105,115,101] :: ·):=Bu (nm:=[114,97,105,115,101]) (by decide) (by decide) (by decide) hr
theorem lexW_true{r:LB}(hr:Sep r):At (116::114::117::101::r)=(At r).map (W [116,114,117,101] :: ·):=Bu (nm:=[116,114,117,101]) (by decide) (by decide) (by decide) hr
theorem W7{r:LB}(hr:Sep r):At (102::97::108::115::101::r)=(At r).map (W [102,97,108,115,101] :: ·):=Bu (nm:=[102,97,108,115,101]) (by decide) (by decide) (by decide) hr
theorem lexW_not{r:LB}(hr:Sep r):At (110::111::116::r)=(At r).map (W [110,111,116] :: ·):=Bu (nm:=[110,111,116]) (by decide) (by decide) (by decide) hr
theorem lexW_ref{r:LB}(hr:Sep r):At (114::101::102::r)=(At r).map (W [114,101,102] :: ·):=Bu (nm:=[114,101,102]) (by decide) (by decide) (by decide) hr
theorem W6{r:LB}(hr:Sep r):At (97::114::114::97::121::r)=(At r).map (W [97,114,114,97,121] :: ·):=Bu (nm:=[97,114,114,97,121]) (by decide) (by decide) (by decide) hr
theorem lexW_get{r:LB}(hr:Sep r):At (103::101::116::r)=(At r).map (W [103,101,116] :: ·):=Bu (nm:=[103,101,116]) (by decide) (by decide) (by decide) hr
theorem lexW_set{r:LB}(hr:Sep r):At (115::101::116::r)=(At r).map (W [115,101,116] :: ·):=Bu (nm:=[115,101,116]) (by decide) (by decide) (by decide) hr
theorem lexW_len{r:LB}(hr:Sep r):At (108::101::110::r)=(At r).map (W [108,101,110] :: ·):=Bu (nm:=[108,101,110]) (by decide) (by decide) (by decide) hr
theorem lexW_size{r:LB}(hr:Sep r):At (115::105::122::101::r)=(At r).map (W [115,105,122,101] :: ·):=Bu (nm:=[115,105,122,101]) (by decide) (by decide) (by decide) hr
theorem Z6{r:LB}(hr:Sep r):At (98::121::116::101::r)=(At r).map (W [98,121,116,101] :: ·):=Bu (nm:=[98,121,116,101]) (by decide) (by decide) (by decide) hr
theorem lexW_cat{r:LB}(hr:Sep r):At (99::97::116::r)=(At r).map (W [99,97,116] :: ·):=Bu (nm:=[99,97,116]) (by decide) (by decide) (by decide) hr
theorem Z8{r:LB}(hr:Sep r):At (103::101::116::99::r)=(At r).map (W [103,101,116,99] :: ·):=Bu (nm:=[103,101,116,99]) (by decide) (by decide) (by decide) hr
theorem Z9{r:LB}(hr:Sep r):At (112::117::116::99::r)=(At r).map (W [112,117,116,99] :: ·):=Bu (nm:=[112,117,116,99]) (by decide) (by decide) (by decide) hr
def Bg(t:LB)(k:List Sp):Prop:=∀ r,Sep r→At (t++r)=(At r).map (k ++ ·)
theorem Bg.sep{t:LB}{k:List Sp}(h:Bg t k){r:LB}(hr:Sep r):At (t++r)=(At r).map (k ++ ·):=h r hr
inductive Nd:List LB→List (List Sp)→Prop
 | nil:Nd [] []
 | cons {t k l ks} (h:Bg t k) (hs:Nd l ks):Nd (t::l) (k::ks)
theorem Kb{x:Sp}{f:List Sp→List Sp}(o:Option (List Sp)):(o.map f).map (x :: ·)=o.map (fun z=>x::f z):=by cases o <;> rfl
theorem map_app2{k:List Sp}{f:List Sp→List Sp}(o:Option (List Sp)):(o.map f).map (k ++ ·)=o.map (fun z=>k++f z):=by cases o <;> rfl
theorem map_eq{f g:List Sp→List Sp}(h:∀ z,f z=g z)(o:Option (List Sp)):o.map f=o.map g:=by rw[funext h]
theorem Bg.name{nm:LB}(h:As nm=true):Bg nm [(1,nm,0)]:=fun r hr=>Fu h hr
theorem Bg.upper{nm:LB}(h:Dm nm=true):Bg nm [(2,nm,0)]:=fun r hr=>W5 h hr
theorem Bg.str(s:LB):Bg (C7 s) [(5,s,0)]:=fun r _=>lexS_str s r
theorem Bg.int{n:Int}(h0:0≤n)(h1:n≤Ea):Bg (Lib.itoa n) [(4,[],n)]:=fun r hr=>lexS_int h0 h1 hr
theorem Bg.truth(n:Int):Bg (Fs n) [W (Fs n)]:=fun r hr=>by
 unfold Fs;split
 ·exact lexW_true hr
 ·exact W7 hr
theorem Bg.unit:Bg [40,41] [G [40],G [41]]:=fun r _=>by
 show At (40::41::r)=_;rw[Ef,Eg,Kb];rfl
theorem Bg.neg{n:Int}(h0:n<0)(h1:-Ea≤n):Bg (Lib.itoa n) [G [45],(4,[],-n)]:=fun r hr=>by
 have e:Lib.itoa n=45::Lib.itoa (-n):=by
  unfold Lib.itoa;rw[if_pos h0,if_neg (by omega)]
  congr 2
  omega
 obtain⟨hd,hne⟩:=Uu (-n) (by omega);have key:=Bg.int (n:=-n) (by omega) (by omega) r hr;rw[e]
 generalize Lib.itoa (-n)=l at *
 cases l with
 | nil=>exact absurd rfl hne
 | cons c t =>
  have hc:Co c=true:=by rw[List.all_cons,Ba'] at hd;exact hd.1
  have h62:c≠62:=fun e=>by subst e;exact absurd hc (by decide)
  show At (45::c::(t++r))=_;rw[Sy c h62,← Lp',key,Kb];rfl
theorem row_sep(f:Bool)(ls:List LB)(l:List LB)(r:LB)(hr:Sep r):Sep (G8 false ls l++r):=by
 cases ls with
 | nil=>exact hr
 | cons x ls =>
  cases l with
  | nil=>exact hr
  | cons t l=>exact sep44 _
theorem S9:∀ (ls:List LB){l:List LB}{ks:List (List Sp)},ls.all As=true→Nd l ks→∀ f:Bool,Bg (G8 f ls l) (Ej f ls ks)
 | [],l,ks,_,h,f=>fun r hr=>by
  have e1:G8 f [] l=[]:=by cases l <;> rfl
  have e2:Ej f [] ks=[]:=by cases ks <;> rfl
  rw[e1,e2,List.nil_append]
  cases At r <;> rfl
 | x::ls,_,_,_,.nil,f=>fun r hr=>by
  show At r=_
  cases At r <;> rfl
 | x::ls,_,_,hn,.cons (t:=t) (k:=k) (l:=l) (ks:=ks) h hs,f=>fun r hr=>by
  rw[List.all_cons,Ba'] at hn;have ih:=S9 ls hn.2 hs false
  have key:∀ r,Sep r→At (x++([32,61,32]++(t++G8 false ls l))++r)=(At r).map (((1,x,0)::G [61]::(k++Ej false ls ks))++ ·):=fun r hr=>by
   simp only[Ls',Lp',List.nil_append];rw[Fu hn.1 (B4 _),Av,L0,Av,h.sep (row_sep false ls l r hr),ih.sep hr];simp only[Option.map_map];exact map_eq (fun z=>by simp) _
  cases f with
  | true=>exact key r hr
  | false =>
   have:=key r hr;show At (44::32::(x++([32,61,32]++(t++G8 false ls l))++r))=_;rw[lexG_44,Av,this,Kb];exact map_eq (fun z=>by simp[Ej]) _
inductive Tm:List (List UInt8×LB)→List (List Sp×List Sp)→Prop
 | nil:Tm [] []
 | cons {p t kp k l ks} (hp:Bg p kp) (h:Bg t k) (hs:Tm l ks):Tm ((p,t)::l) ((kp,k)::ks)
theorem arm_sep(l:List (List UInt8×LB))(r:LB)(hr:Sep r):Sep (Gj false l++r):=by
 cases l with
 | nil=>exact hr
 | cons x l=>exact B4 _
theorem Og:∀ {l:List (List UInt8×LB)}{ks:List (List Sp×List Sp)},Tm l ks→∀ f:Bool,Bg (Gj f l) (Ex f ks)
 | _,_,.nil,f=>fun r hr=>by
  show At r=_
  cases At r <;> rfl
 | _,_,.cons (p:=p) (t:=t) (kp:=kp) (k:=k) (l:=l) (ks:=ks) hp h hs,f=>fun r hr=>by
  have ih:=Og hs false
  have key:∀ r,Sep r→At (p++([32,45,62,32]++(t++Gj false l))++r)=(At r).map ((kp++(G [45,62]::(k++Ex false ks)))++ ·):=fun r hr=>by
   simp only[Ls',Lp',List.nil_append];rw[hp.sep (B4 _),Av,Le,Av,h.sep (arm_sep l r hr),ih.sep hr];simp only[Option.map_map];exact map_eq (fun z=>by simp) _
  cases f with
  | true=>exact key r hr
  | false =>
   have:=key r hr;show At (32::124::32::(p++([32,45,62,32]++(t++Gj false l))++r))=_;rw[Av,lexG_124 32 (by decide),Av,this,Kb];exact map_eq (fun z=>by simp[Ex]) _
theorem Ud(l:List LB)(r:LB)(hr:Sep r):Sep (Gh l++r):=by
 cases l with
 | nil=>exact hr
 | cons x l=>exact B4 _
theorem Uc:∀ {l:List LB}{ks:List (List Sp)},Nd l ks→Bg (Gh l) (Ek ks)
 | _,_,.nil=>fun r hr=>by
  show At r=_
  cases At r <;> rfl
 | _,_,.cons (t:=t) (k:=k) (l:=l) (ks:=ks) h hs=>fun r hr=>by
  show At (32::(t++Gh l++r))=_;rw[Av,Ls',h.sep (Ud l r hr),(Uc hs).sep hr,map_app2];exact map_eq (fun z=>by simp[Ek]) _
theorem op_in{n:Int}(h1:1≤n)(h2:n≤21):n=1∨n=2∨n=3∨n=4∨n=5∨n=6∨n=7∨n=8∨n=9∨n=10∨n=11∨n=12∨n=13∨n=14∨n=15∨n=16∨n=17∨n=18∨n=19∨n=20∨n=21:=by omega
theorem Xk{n:Int}(h1:1≤n)(h2:n≤21)(r:LB):At (Bx n++32::r)=(At r).map (En n :: ·):=by
 rcases op_in h1 h2 with rfl|rfl|rfl|rfl|rfl|rfl|rfl|rfl|rfl|rfl|rfl|rfl|rfl|rfl|rfl|rfl|rfl|rfl|rfl|rfl|rfl
 ·show At (43::32::r)=_;rw[lexG_43,Av];rfl
 ·show At (45::32::r)=_;rw[Sy 32 (by decide),Av];rfl
 ·show At (42::32::r)=_;rw[lexG_42,Av];rfl
 ·show At (47::32::r)=_;rw[lexG_47,Av];rfl
 ·show At (37::32::r)=_;rw[lexG_37,Av];rfl
 ·show At (45::32::r)=_;rw[Sy 32 (by decide),Av];rfl
 ·show At (61::32::r)=_;rw[L0,Av];rfl
 ·show At (60::32::r)=_;rw[lexG_60,Av];rfl
 ·show At (110::111::116::32::r)=_;rw[lexW_not (B4 r),Av];rfl
 ·show At (114::101::102::32::r)=_;rw[lexW_ref (B4 r),Av];rfl
 ·show At (33::32::r)=_;rw[lexG_33,Av];rfl
 ·show At (58::61::32::r)=_;rw[W4,Av];rfl
 ·show At (97::114::114::97::121::32::r)=_;rw[W6 (B4 r),Av];rfl
 ·show At (103::101::116::32::r)=_;rw[lexW_get (B4 r),Av];rfl
 ·show At (115::101::116::32::r)=_;rw[lexW_set (B4 r),Av];rfl
 ·show At (108::101::110::32::r)=_;rw[lexW_len (B4 r),Av];rfl
 ·show At (115::105::122::101::32::r)=_;rw[lexW_size (B4 r),Av];rfl
 ·show At (98::121::116::101::32::r)=_;rw[Z6 (B4 r),Av];rfl
 ·show At (99::97::116::32::r)=_;rw[lexW_cat (B4 r),Av];rfl
 ·show At (103::101::116::99::32::r)=_;rw[Z8 (B4 r),Av];rfl
 ·show At (112::117::116::99::32::r)=_;rw[Z9 (B4 r),Av];rfl
inductive Ho:Int→List UInt8→Int→List UInt8→List LB→Nat→Nat→Int→Prop
 | var {nm:LB} {k0:Int} (h:As nm=true):Ho 1 nm 0 [] [] 0 0 k0
 | int {n:Int} {k0:Int} (h:0≤n∧n≤Ea):Ho 2 [] n [] [] 0 0 k0
 | str {s:LB} {k0:Int} :Ho 3 [] 0 s [] 0 0 k0
 | bool {n:Int} {k0:Int} (h:n=0∨n=1):Ho 4 [] n [] [] 0 0 k0
 | unit  {k0:Int} :Ho 5 [] 0 [] [] 0 0 k0
 | exn {nm:LB} {k0:Int} (h:Dm nm=true):Ho 6 nm 0 [] [] 0 0 k0
 | fn {nm:LB} {k0:Int} (h:As nm=true):Ho 7 nm 0 [] [] 1 0 k0
 | app  {k0:Int} :Ho 8 [] 0 [] [] 2 0 k0
 | let_ {nm:LB} {k0:Int} (h:As nm=true):Ho 9 nm 0 [] [] 2 0 k0
 | rec_ {nm:LB} {k0:Int} (h:As nm=true) (hk:k0=7):Ho 10 nm 0 [] [] 2 0 k0
 | if_  {k0:Int} :Ho 11 [] 0 [] [] 3 0 k0
 | record {ls:List LB} {k0:Int} (h:ls.all As=true):Ho 12 [] 0 [] ls ls.length 0 k0
 | with_ {nm:LB} {k0:Int} (h:As nm=true):Ho 13 nm 0 [] [] 2 0 k0
 | field {nm:LB} {k0:Int} (h:As nm=true):Ho 14 nm 0 [] [] 1 0 k0
 | tag {nm:LB} {k0:Int} (h:Dm nm=true):Ho 15 nm 0 [] [] 1 0 k0
 | match_ {ma:Nat} {k0:Int} (h:0<ma):Ho 16 [] 0 [] [] 1 ma k0
 | try_ {ma:Nat} {k0:Int} (h:0<ma):Ho 17 [] 0 [] [] 1 ma k0
 | raise_  {k0:Int} :Ho 18 [] 0 [] [] 1 0 k0
 | op {n:Int} {k0:Int} (h:1≤n∧n≤21):Ho 19 [] n [] [] (Dc n) 0 k0
 | seq  {k0:Int} :Ho 20 [] 0 [] [] 2 0 k0
 | and_  {k0:Int} :Ho 21 [] 0 [] [] 2 0 k0
 | or_  {k0:Int} :Ho 22 [] 0 [] [] 2 0 k0
theorem Oj{k:Int}{nm:LB}{n:Int}{s:LB}{ls:List LB}{na ma:Nat}{k0:Int}(h:El k nm n s ls na ma k0=true):Ho k nm n s ls na ma k0:=by
 unfold El at h;rw[Ba'] at h;obtain⟨h1,h2⟩:=h;by_cases e1:k=1
 ·subst e1;simp[Bt,Ah] at h1;simp[A9] at h2;obtain⟨⟨⟨⟨rfl,rfl⟩,rfl⟩,rfl⟩,rfl⟩:=h1;exact .var (by first|exact h2|simpa using h2)
 by_cases e2:k=2
 ·subst e2;simp[Bt,Ah] at h1;simp[A9] at h2;obtain⟨⟨⟨⟨rfl,rfl⟩,rfl⟩,rfl⟩,rfl⟩:=h1;exact .int (by first|exact h2|simpa using h2)
 by_cases e3:k=3
 ·subst e3;simp[Bt,Ah] at h1;obtain⟨⟨⟨⟨rfl,rfl⟩,rfl⟩,rfl⟩,rfl⟩:=h1;exact .str
 by_cases e4:k=4
 ·subst e4;simp[Bt,Ah] at h1;simp[A9] at h2;obtain⟨⟨⟨⟨rfl,rfl⟩,rfl⟩,rfl⟩,rfl⟩:=h1;exact .bool (by first|exact h2|simpa using h2)
 by_cases e5:k=5
 ·subst e5;simp[Bt,Ah] at h1;obtain⟨⟨⟨⟨⟨rfl,rfl⟩,rfl⟩,rfl⟩,rfl⟩,rfl⟩:=h1;exact .unit
 by_cases e6:k=6
 ·subst e6;simp[Bt,Ah] at h1;simp[A9] at h2;obtain⟨⟨⟨⟨rfl,rfl⟩,rfl⟩,rfl⟩,rfl⟩:=h1;exact .exn (by first|exact h2|simpa using h2)
 by_cases e7:k=7
 ·subst e7;simp[Bt,Ah] at h1;simp[A9] at h2;obtain⟨⟨⟨⟨rfl,rfl⟩,rfl⟩,rfl⟩,rfl⟩:=h1;exact .fn (by first|exact h2|simpa using h2)
 by_cases e8:k=8
 ·subst e8;simp[Bt,Ah] at h1;obtain⟨⟨⟨⟨⟨rfl,rfl⟩,rfl⟩,rfl⟩,rfl⟩,rfl⟩:=h1;exact .app
 by_cases e9:k=9
 ·subst e9;simp[Bt,Ah] at h1;simp[A9] at h2;obtain⟨⟨⟨⟨rfl,rfl⟩,rfl⟩,rfl⟩,rfl⟩:=h1;exact .let_ (by first|exact h2|simpa using h2)
 by_cases e10:k=10
 ·subst e10;simp[Bt,Ah] at h1;simp[A9] at h2;obtain⟨⟨⟨⟨rfl,rfl⟩,rfl⟩,rfl⟩,rfl⟩:=h1;exact .rec_ (by simpa using h2.1) (by simpa using h2.2)
 by_cases e11:k=11
 ·subst e11;simp[Bt,Ah] at h1;obtain⟨⟨⟨⟨⟨rfl,rfl⟩,rfl⟩,rfl⟩,rfl⟩,rfl⟩:=h1;exact .if_
 by_cases e12:k=12
 ·subst e12;simp[Bt,Ah] at h1;simp[A9] at h2;obtain⟨⟨⟨⟨rfl,rfl⟩,rfl⟩,rfl⟩,rfl⟩:=h1;exact .record (by first|exact h2|simpa using h2)
 by_cases e13:k=13
 ·subst e13;simp[Bt,Ah] at h1;simp[A9] at h2;obtain⟨⟨⟨⟨rfl,rfl⟩,rfl⟩,rfl⟩,rfl⟩:=h1;exact .with_ (by first|exact h2|simpa using h2)
 by_cases e14:k=14
 ·subst e14;simp[Bt,Ah] at h1;simp[A9] at h2;obtain⟨⟨⟨⟨rfl,rfl⟩,rfl⟩,rfl⟩,rfl⟩:=h1;exact .field (by first|exact h2|simpa using h2)
 by_cases e15:k=15
 ·subst e15;simp[Bt,Ah] at h1;simp[A9] at h2;obtain⟨⟨⟨⟨rfl,rfl⟩,rfl⟩,rfl⟩,rfl⟩:=h1;exact .tag (by first|exact h2|simpa using h2)
 by_cases e16:k=16
 ·subst e16;simp[Bt,Ah] at h1;obtain⟨⟨⟨⟨⟨rfl,rfl⟩,rfl⟩,rfl⟩,rfl⟩,hm⟩:=h1;exact .match_ (by omega)
 by_cases e17:k=17
 ·subst e17;simp[Bt,Ah] at h1;obtain⟨⟨⟨⟨⟨rfl,rfl⟩,rfl⟩,rfl⟩,rfl⟩,hm⟩:=h1;exact .try_ (by omega)
 by_cases e18:k=18
 ·subst e18;simp[Bt,Ah] at h1;obtain⟨⟨⟨⟨⟨rfl,rfl⟩,rfl⟩,rfl⟩,rfl⟩,rfl⟩:=h1;exact .raise_
 by_cases e19:k=19
 ·subst e19;by_cases hn:1≤n∧n≤21
  ·simp[Bt,Ah,hn] at h1;obtain⟨⟨⟨⟨rfl,rfl⟩,rfl⟩,rfl⟩,rfl⟩:=h1;exact .op hn
  ·simp[Bt,hn] at h1
 by_cases e20:k=20
 ·subst e20;simp[Bt,Ah] at h1;obtain⟨⟨⟨⟨⟨rfl,rfl⟩,rfl⟩,rfl⟩,rfl⟩,rfl⟩:=h1;exact .seq
 by_cases e21:k=21
 ·subst e21;simp[Bt,Ah] at h1;obtain⟨⟨⟨⟨⟨rfl,rfl⟩,rfl⟩,rfl⟩,rfl⟩,rfl⟩:=h1;exact .and_
 by_cases e22:k=22
 ·subst e22;simp[Bt,Ah] at h1;obtain⟨⟨⟨⟨⟨rfl,rfl⟩,rfl⟩,rfl⟩,rfl⟩,rfl⟩:=h1;exact .or_
 simp[Bt,e1,e2,e3,e4,e5,e6,e7,e8,e9,e10,e11,e12,e13,e14,e15,e16,e17,e18,e19,e20,e21,e22] at h1
theorem lx7{nm:LB}(h:As nm=true){t0:LB}{k0:List Sp}(h0:Bg t0 k0):Bg ([40,102,117,110,32]++(nm++([32,45,62,32]++(t0++([41]))))) (G [40]::(W [102,117,110]::((1,nm,0)::(G [45,62]::(k0++([G [41]])))))):=fun r _=>by
 simp only[Ls',Lp',List.nil_append];rw[Ef,U5 (B4 _),Av,Fu h (B4 _),Av,Le,Av,h0.sep (Gx _),Eg];simp only[Option.map_map];exact map_eq (fun z=>by simp) _
theorem lx8{t0:LB}{k0:List Sp}(h0:Bg t0 k0){t1:LB}{k1:List Sp}(h1:Bg t1 k1):Bg ([40]++(t0++([32]++(t1++([41]))))) (G [40]::(k0++(k1++([G [41]])))):=fun r _=>by
 simp only[Ls',Lp',List.nil_append];rw[Ef,h0.sep (B4 _),Av,h1.sep (Gx _),Eg];simp only[Option.map_map];exact map_eq (fun z=>by simp) _
theorem lx9{nm:LB}(h:As nm=true){t0:LB}{k0:List Sp}(h0:Bg t0 k0){t1:LB}{k1:List Sp}(h1:Bg t1 k1):Bg ([40,108,101,116,32]++(nm++([32,61,32]++(t0++([32,105,110,32]++(t1++([41]))))))) (G [40]::(W [108,101,116]::((1,nm,0)::(G [61]::(k0++(W [105,110]::(k1++([G [41]])))))))):=fun r _=>by
 simp only[Ls',Lp',List.nil_append];rw[Ef,U6 (B4 _),Av,Fu h (B4 _),Av,L0,Av,h0.sep (B4 _),Av,Yu (B4 _),Av,h1.sep (Gx _),Eg];simp only[Option.map_map];exact map_eq (fun z=>by simp) _
theorem lx10{nm:LB}(h:As nm=true){t0:LB}{k0:List Sp}(h0:Bg t0 k0){t1:LB}{k1:List Sp}(h1:Bg t1 k1):Bg ([40,108,101,116,32,114,101,99,32]++(nm++([32,61,32]++(t0++([32,105,110,32]++(t1++([41]))))))) (G [40]::(W [108,101,116]::(W [114,101,99]::((1,nm,0)::(G [61]::(k0++(W [105,110]::(k1++([G [41]]))))))))):=fun r _=>by
 simp only[Ls',Lp',List.nil_append];rw[Ef,U6 (B4 _),Av,lexW_rec (B4 _),Av,Fu h (B4 _),Av,L0,Av,h0.sep (B4 _),Av,Yu (B4 _),Av,h1.sep (Gx _),Eg];simp only[Option.map_map];exact map_eq (fun z=>by simp) _
theorem lx11{t0:LB}{k0:List Sp}(h0:Bg t0 k0){t1:LB}{k1:List Sp}(h1:Bg t1 k1){t2:LB}{k2:List Sp}(h2:Bg t2 k2):Bg ([40,105,102,32]++(t0++([32,116,104,101,110,32]++(t1++([32,101,108,115,101,32]++(t2++([41]))))))) (G [40]::(W [105,102]::(k0++(W [116,104,101,110]::(k1++(W [101,108,115,101]::(k2++([G [41]])))))))):=fun r _=>by
 simp only[Ls',Lp',List.nil_append];rw[Ef,lexW_if (B4 _),Av,h0.sep (B4 _),Av,lexW_then (B4 _),Av,h1.sep (B4 _),Av,Z7 (B4 _),Av,h2.sep (Gx _),Eg];simp only[Option.map_map];exact map_eq (fun z=>by simp) _
theorem lx12{ls:List LB}{l:List LB}{ks:List (List Sp)}(hrow:Bg (G8 true ls l) (Ej true ls ks)):Bg ([123]++(G8 true ls l++([125]))) (G [123]::(Ej true ls ks++([G [125]]))):=fun r _=>by
 simp only[Ls',Lp',List.nil_append];rw[U2,hrow.sep (sep125 _),U3];simp only[Option.map_map];exact map_eq (fun z=>by simp) _
theorem lx13{nm:LB}(h:As nm=true){t0:LB}{k0:List Sp}(h0:Bg t0 k0){t1:LB}{k1:List Sp}(h1:Bg t1 k1):Bg ([123]++(t0++([32,119,105,116,104,32]++(nm++([32,61,32]++(t1++([125]))))))) (G [123]::(k0++(W [119,105,116,104]::((1,nm,0)::(G [61]::(k1++([G [125]]))))))):=fun r _=>by
 simp only[Ls',Lp',List.nil_append];rw[U2,h0.sep (B4 _),Av,J9 (B4 _),Av,Fu h (B4 _),Av,L0,Av,h1.sep (sep125 _),U3];simp only[Option.map_map];exact map_eq (fun z=>by simp) _
theorem lx14{nm:LB}(h:As nm=true){t0:LB}{k0:List Sp}(h0:Bg t0 k0):Bg (t0++([46]++(nm))) (k0++(G [46]::([(1,nm,0)]))):=fun r hr=>by
 simp only[Ls',Lp',List.nil_append];rw[h0.sep (sep46 _),lexG_46,Fu h hr];simp only[Option.map_map];exact map_eq (fun z=>by simp) _
theorem lx15{nm:LB}(h:Dm nm=true){t0:LB}{k0:List Sp}(h0:Bg t0 k0):Bg ([40]++((35::nm)++([32]++(t0++([41]))))) (G [40]::((3,nm,0)::(k0++([G [41]])))):=fun r _=>by
 simp only[Ls',Lp',List.nil_append];rw[Ef,U4 h (B4 _),Av,h0.sep (Gx _),Eg];simp only[Option.map_map];exact map_eq (fun z=>by simp) _
theorem lx16{t0:LB}{k0:List Sp}(h0:Bg t0 k0){m:List (List UInt8×LB)}{mk:List (List Sp×List Sp)}(harm:Bg (Gj true m) (Ex true mk)):Bg ([40,109,97,116,99,104,32]++(t0++([32,119,105,116,104,32]++(Gj true m++([32,101,110,100,41]))))) (G [40]::(W [109,97,116,99,104]::(k0++(W [119,105,116,104]::(Ex true mk++(W [101,110,100]::([G [41]]))))))):=fun r _=>by
 simp only[Ls',Lp',List.nil_append];rw[Ef,Pq (B4 _),Av,h0.sep (B4 _),Av,J9 (B4 _),Av,harm.sep (B4 _),Av,Pp (Gx _),Eg];simp only[Option.map_map];exact map_eq (fun z=>by simp) _
theorem lx17{t0:LB}{k0:List Sp}(h0:Bg t0 k0){m:List (List UInt8×LB)}{mk:List (List Sp×List Sp)}(harm:Bg (Gj true m) (Ex true mk)):Bg ([40,116,114,121,32]++(t0++([32,119,105,116,104,32]++(Gj true m++([32,101,110,100,41]))))) (G [40]::(W [116,114,121]::(k0++(W [119,105,116,104]::(Ex true mk++(W [101,110,100]::([G [41]]))))))):=fun r _=>by
 simp only[Ls',Lp',List.nil_append];rw[Ef,lexW_try (B4 _),Av,h0.sep (B4 _),Av,J9 (B4 _),Av,harm.sep (B4 _),Av,Pp (Gx _),Eg];simp only[Option.map_map];exact map_eq (fun z=>by simp) _
theorem lx18{t0:LB}{k0:List Sp}(h0:Bg t0 k0):Bg ([40,114,97,105,115,101,32]++(t0++([41]))) (G [40]::(W [114,97,105,115,101]::(k0++([G [41]])))):=fun r _=>by
 simp only[Ls',Lp',List.nil_append];rw[Ef,W8 (B4 _),Av,h0.sep (Gx _),Eg];simp only[Option.map_map];exact map_eq (fun z=>by simp) _
theorem lx20{t0:LB}{k0:List Sp}(h0:Bg t0 k0){t1:LB}{k1:List Sp}(h1:Bg t1 k1):Bg ([40]++(t0++([59,32]++(t1++([41]))))) (G [40]::(k0++(G [59]::(k1++([G [41]]))))):=fun r _=>by
 simp only[Ls',Lp',List.nil_append];rw[Ef,h0.sep (sep59 _),lexG_59,Av,h1.sep (Gx _),Eg];simp only[Option.map_map];exact map_eq (fun z=>by simp) _
theorem lx21{t0:LB}{k0:List Sp}(h0:Bg t0 k0){t1:LB}{k1:List Sp}(h1:Bg t1 k1):Bg ([40]++(t0++([32,38,38,32]++(t1++([41]))))) (G [40]::(k0++(G [38,38]::(k1++([G [41]]))))):=fun r _=>by
 simp only[Ls',Lp',List.nil_append];rw[Ef,h0.sep (B4 _),Av,W3,Av,h1.sep (Gx _),Eg];simp only[Option.map_map];exact map_eq (fun z=>by simp) _
theorem lx22{t0:LB}{k0:List Sp}(h0:Bg t0 k0){t1:LB}{k1:List Sp}(h1:Bg t1 k1):Bg ([40]++(t0++([32,124,124,32]++(t1++([41]))))) (G [40]::(k0++(G [124,124]::(k1++([G [41]]))))):=fun r _=>by
 simp only[Ls',Lp',List.nil_append];rw[Ef,h0.sep (B4 _),Av,Sx,Av,h1.sep (Gx _),Eg];simp only[Option.map_map];exact map_eq (fun z=>by simp) _
theorem lx107{nm:LB}(h:As nm=true){t0:LB}{k0:List Sp}(h0:Bg t0 k0):Bg ([102,117,110,32]++(nm++([32,45,62,32]++(t0)))) (W [102,117,110]::((1,nm,0)::(G [45,62]::(k0)))):=fun r hr=>by
 simp only[Ls',Lp',List.nil_append];rw[U5 (B4 _),Av,Fu h (B4 _),Av,Le,Av,h0.sep hr];simp only[Option.map_map];exact map_eq (fun z=>by simp) _
theorem lx108{nm:LB}(h:Dm nm=true){t0:LB}{k0:List Sp}(h0:Bg t0 k0):Bg ([40]++((35::nm)++([32]++(t0++([41]))))) (G [40]::((3,nm,0)::(k0++([G [41]])))):=fun r _=>by
 simp only[Ls',Lp',List.nil_append];rw[Ef,U4 h (B4 _),Av,h0.sep (Gx _),Eg];simp only[Option.map_map];exact map_eq (fun z=>by simp) _
theorem Bg.cong{t t':LB}{k k':List Sp}(h:Bg t k)(e:t'=t)(e':k'=k):Bg t' k':=by rw[e,e'];exact h
theorem lxOp1{n:Int}(h1:1≤n)(h2:n≤21){t0:LB}{k0:List Sp}(h0:Bg t0 k0):Bg (40::(Bx n++(32::t0)++[41])) (G [40]::(En n::k0++[G [41]])):=fun r _=>by
 simp only[Ls',Lp',List.nil_append];rw[Ef,Xk h1 h2,h0.sep (Gx _),Eg];simp only[Option.map_map];exact map_eq (fun z=>by simp) _
theorem lxOp2{n:Int}(h1:1≤n)(h2:n≤21){t0:LB}{k0:List Sp}(h0:Bg t0 k0){t1:LB}{k1:List Sp}(h3:Bg t1 k1):Bg (40::(t0++(32::(Bx n++(32::t1)))++[41])) (G [40]::(k0++(En n::k1)++[G [41]])):=fun r _=>by
 simp only[Ls',Lp',List.nil_append];rw[Ef,h0.sep (B4 _),Av,Xk h1 h2,h3.sep (Gx _),Eg];simp only[Option.map_map];exact map_eq (fun z=>by simp) _
theorem lxOpN{n:Int}(h1:1≤n)(h2:n≤21){l:List LB}{ks:List (List Sp)}(hl:Nd l ks)(hne:l≠[]):Bg (40::(Bx n++Gh l++[41])) (G [40]::(En n::Ek ks++[G [41]])):=fun r _=>by
 cases hl with
 | nil=>exact absurd rfl hne
 | @cons t k l ks h hs =>
  have e:∀ z,Gh (t::l)++z=32::(t++(Gh l++z)):=fun z=>by simp[Gh]
  simp only[Ls',Lp',List.nil_append];rw[Ef,e,Xk h1 h2,h.sep (Ud l _ (Gx r)),(Uc hs).sep (Gx r),Eg];simp only[Option.map_map];exact map_eq (fun z=>by simp[Ek]) _
theorem txPs_lex{args:List Ak}(h:∀ (i:Nat)(x:Ak),args[i]?=some x→Bg (txP x) (tkP x)):Nd (Gg args) (Fm args):=by
 induction args with
 | nil=>rw[Gg,Fm];exact .nil
 | cons x l ih=>rw[Gg,Fm];exact .cons (h 0 x rfl) (ih (fun i y hy=>h (i+1) y hy))
theorem txEs_lex{args:List Ab}(h:∀ (i:Nat)(x:Ab),args[i]?=some x→Bg (txE x) (tkE x)):Nd (Az args) (Br args):=by
 induction args with
 | nil=>rw[Az,Br];exact .nil
 | cons x l ih=>rw[Az,Br];exact .cons (h 0 x rfl) (ih (fun i y hy=>h (i+1) y hy))
theorem Wb{arms:List (Ak×Ab)}(hp:∀ (i:Nat)(p:Ak)(x:Ab),arms[i]?=some (p,x)→Bg (txP p) (tkP p))(h:∀ (i:Nat)(p:Ak)(x:Ab),arms[i]?=some (p,x)→Bg (txE x) (tkE x)):Tm (Cr arms) (E9 arms):=by
 induction arms with
 | nil=>rw[Cr,E9];exact .nil
 | cons x l ih =>
  obtain⟨p,x⟩:=x;rw[Cr,E9,txA,tkA];exact .cons (hp 0 p x rfl) (h 0 p x rfl) (ih (fun i p y hy=>hp (i+1) p y hy) (fun i p y hy=>h (i+1) p y hy))
theorem txEs_len(l:List Ab):(Az l).length=l.length:=by induction l with|nil=>rfl|cons x l ih=>simp[Az,ih]
theorem Kc:∀ {l:List Ak},Db l=true→∀ (i:Nat)(x:Ak),l[i]?=some x→Ct x=true
 | [],_,i,x,h=>by simp at h
 | y::l,hm,i,x,h=>by
  rw[Db,Ba'] at hm
  cases i with
  | zero=>simp at h;subst h;exact hm.1
  | succ i=>exact Kc hm.2 i x (by simpa using h)
theorem Hl:∀ {l:List Ab},Au l=true→∀ (i:Nat)(x:Ab),l[i]?=some x→Be x=true
 | [],_,i,x,h=>by simp at h
 | y::l,hm,i,x,h=>by
  rw[Au,Ba'] at hm
  cases i with
  | zero=>simp at h;subst h;exact hm.1
  | succ i=>exact Hl hm.2 i x (by simpa using h)
theorem It:∀ {l:List (Ak×Ab)},A0 l=true→∀ (i:Nat)(p:Ak)(x:Ab),l[i]?=some (p,x)→Ct p=true∧Be x=true
 | [],_,i,p,x,h=>by simp at h
 | (q,y)::l,hm,i,p,x,h=>by
  rw[A0,Ba',mayA,Ba'] at hm
  cases i with
  | zero=>simp at h;obtain⟨rfl,rfl⟩:=h;exact hm.1
  | succ i=>exact It hm.2 i p x (by simpa using h)
theorem Ei{α:Type}:∀ {l:List α},l.length=1→∃ a,l=[a]
 | [a],_=>⟨a,rfl⟩
theorem D5{α:Type}:∀ {l:List α},l.length=2→∃ a b,l=[a,b]
 | [a,b],_=>⟨a,b,rfl⟩
theorem V1{α:Type}:∀ {l:List α},l.length=3→∃ a b c,l=[a,b,c]
 | [a,b,c],_=>⟨a,b,c,rfl⟩
theorem Ck{α:Type}:∀ {l:List α},l.length=0→l=[]
 | [],_=>rfl
inductive Qq:Int→List UInt8→Int→List UInt8→List LB→Nat→Prop
 | any:Qq 1 [] 0 [] [] 0
 | var {nm:LB} (h:As nm=true) (hu:nm≠[95]):Qq 2 nm 0 [] [] 0
 | int {n:Int} (h:-Ea≤n∧n≤Ea):Qq 3 [] n [] [] 0
 | str {s:LB}:Qq 4 [] 0 s [] 0
 | bool {n:Int} (h:n=0∨n=1):Qq 5 [] n [] [] 0
 | unit:Qq 6 [] 0 [] [] 0
 | exn {nm:LB} (h:Dm nm=true):Qq 7 nm 0 [] [] 0
 | tag {nm:LB} (h:Dm nm=true):Qq 8 nm 0 [] [] 1
 | record {ls:List LB} (h:ls.all As=true):Qq 9 [] 0 [] ls ls.length
theorem Sq{k:Int}{nm:LB}{n:Int}{s:LB}{ls:List LB}{na:Nat}(h:F0 k nm n s ls na=true):Qq k nm n s ls na:=by
 unfold F0 at h;rw[Ba'] at h;obtain⟨h1,h2⟩:=h;by_cases e1:k=1
 ·subst e1;simp[Ee,Ah] at h1;obtain⟨⟨⟨⟨rfl,rfl⟩,rfl⟩,rfl⟩,rfl⟩:=h1;exact .any
 by_cases e2:k=2
 ·subst e2;simp[Ee,Ah] at h1;simp[D9] at h2;obtain⟨⟨⟨rfl,rfl⟩,rfl⟩,rfl⟩:=h1;exact .var h2.1 h2.2
 by_cases e3:k=3
 ·subst e3;simp[Ee,Ah] at h1;simp[D9] at h2;obtain⟨⟨⟨rfl,rfl⟩,rfl⟩,rfl⟩:=h1;exact .int h2
 by_cases e4:k=4
 ·subst e4;simp[Ee,Ah] at h1;obtain⟨⟨⟨rfl,rfl⟩,rfl⟩,rfl⟩:=h1;exact .str
 by_cases e5:k=5
 ·subst e5;simp[Ee,Ah] at h1;simp[D9] at h2;obtain⟨⟨⟨rfl,rfl⟩,rfl⟩,rfl⟩:=h1;exact .bool h2
 by_cases e6:k=6
 ·subst e6;simp[Ee,Ah] at h1;obtain⟨⟨⟨⟨rfl,rfl⟩,rfl⟩,rfl⟩,rfl⟩:=h1;exact .unit
 by_cases e7:k=7
 ·subst e7;simp[Ee,Ah] at h1;simp[D9] at h2;obtain⟨⟨⟨rfl,rfl⟩,rfl⟩,rfl⟩:=h1;exact .exn h2
 by_cases e8:k=8
 ·subst e8;simp[Ee,Ah] at h1;simp[D9] at h2;obtain⟨⟨⟨rfl,rfl⟩,rfl⟩,rfl⟩:=h1;exact .tag h2
 by_cases e9:k=9
 ·subst e9;simp[Ee,Ah] at h1;simp[D9] at h2;obtain⟨⟨⟨rfl,rfl⟩,rfl⟩,rfl⟩:=h1;exact .record (by first|exact h2|simpa using h2)
 simp[Ee,e1,e2,e3,e4,e5,e6,e7,e8,e9] at h1
theorem name_us:As [95]=true:=by decide
theorem lexP:∀ (N:Nat)(x:Ak),szP x<N→Ct x=true→Bg (txP x) (tkP x)
 | 0,_,h,_=>absurd h (Nat.not_lt_zero _)
 | N+1,.mk k a nm n s ls args,hlt,hm=>by
  have hsz:szP (.mk k a nm n s ls args)=1+Ey args:=by simp[szP]
  rw[Ct,Ba'] at hm;obtain⟨hf,hm⟩:=hm;have IH:∀ (i:Nat) (x:Ak),args[i]?=some x→Bg (txP x) (tkP x):=fun i x hx=>lexP N x (by have:=Gz hx;omega) (Kc hm i x hx)
  have hl:=txPs_lex IH;rw[txP,tkP];generalize hna:args.length=na at hf
  cases Sq hf with
  | any=>exact Bg.name name_us
  | var h _=>exact Bg.name h
  | int h =>
   by_cases h0:n<0
   ·have:=Bg.neg h0 h.1;have e:Jt 3 [] n [] [] (Fm args)=[G [45],(4,[],-n)]:=by simp[Jt,h0]
    rw[e];exact this
   ·have:=Bg.int (n:=n) (by omega) h.2;have e:Jt 3 [] n [] [] (Fm args)=[(4,[],n)]:=by simp[Jt,h0]
    rw[e];exact this
  | str=>exact Bg.str s
  | bool h=>exact Bg.truth n
  | unit=>exact Bg.unit
  | exn h=>exact Bg.upper h
  | tag h =>
   obtain⟨x0,rfl⟩:=Ei hna;simp only[Gg,Fm]
   exact(lx108 h (IH 0 x0 rfl)).cong (by simp[Mb]) (by simp[Jt])
  | record h =>
   exact(lx12 (S9 ls h hl true)).cong (by simp[Mb]) (by simp[Jt])
theorem k_mk{k a:Int}{nm:LB}{n:Int}{s:LB}{ls:List LB}{args:List Ab}{arms:List (Ak×Ab)}:(Ab.mk k a nm n s ls args arms).k_=k:=rfl
theorem Z0(x:LB):Gb (40::(x++[41]))=x:=by simp[Gb]
theorem Pj(x:List Sp):J7 (G [40]::(x++[G [41]]))=x:=by simp[J7]
theorem lexE:∀ (N:Nat)(x:Ab),szE x<N→Be x=true→Bg (txE x) (tkE x)∧(x.k_=7→Bg (Gb (txE x)) (J7 (tkE x)))
 | 0,_,h,_=>absurd h (Nat.not_lt_zero _)
 | N+1,.mk k a nm n s ls args arms,hlt,hm=>by
  have hsz:szE (.mk k a nm n s ls args arms)=1+(B1 args+Cd arms):=by simp[szE]
  rw[Be,Ba',Ba'] at hm;obtain⟨⟨hf,hm⟩,hma⟩:=hm;have IH2:∀ (i:Nat) (x:Ab),args[i]?=some x→Bg (txE x) (tkE x)∧(x.k_=7→Bg (Gb (txE x)) (J7 (tkE x))):=fun i x hx=>lexE N x (by have:=Et hx;omega) (Hl hm i x hx)
  have IH:∀ (i:Nat) (x:Ab),args[i]?=some x→Bg (txE x) (tkE x):=fun i x hx=>(IH2 i x hx).1
  have hl:=txEs_lex IH;have ha:=Wb (arms:=arms) (fun i p x hx=>lexP (szP p+1) p (Nat.lt_succ_self _) (It hma i p x hx).1) (fun i p x hx=>(lexE N x (by have:=Fd hx;have:=Y7 p;omega) (It hma i p x hx).2).1);rw[k_mk,txE,tkE];generalize hna:args.length=na at hf;generalize arms.length=ma at hf;generalize hk0:Dp args=k0 at hf
  cases Oj hf with
  | var h=>exact⟨Bg.name h,fun e=>by cases e⟩
  | int h=>exact⟨Bg.int h.1 h.2,fun e=>by cases e⟩
  | str=>exact⟨Bg.str s,fun e=>by cases e⟩
  | bool h=>exact⟨Bg.truth n,fun e=>by cases e⟩
  | unit=>exact⟨Bg.unit,fun e=>by cases e⟩
  | exn h=>exact⟨Bg.upper h,fun e=>by cases e⟩
  | fn h =>
   obtain⟨x0,rfl⟩:=Ei hna;simp only[Az,Br];refine⟨(lx7 h (IH 0 x0 rfl)).cong (by simp[Eb,Bc]) (by simp[Bp,Bh]),fun _=>?_⟩;have e1:Eb 7 nm 0 [] [] [txE x0] (Cr arms)=40::(([102,117,110,32]++(nm++([32,45,62,32]++txE x0)))++[41]):=rfl;have e2:Bp 7 nm 0 [] [] [tkE x0] (E9 arms)=G [40]::((W [102,117,110]::(1,nm,0)::G [45,62]::tkE x0)++[G [41]]):=rfl;rw[e1,e2,Z0,Pj]
   exact lx107 h (IH 0 x0 rfl)
  | app =>
   obtain⟨x0,x1,rfl⟩:=D5 hna;simp only[Az,Br]
   exact⟨(lx8 (IH 0 x0 rfl) (IH 1 x1 rfl)).cong (by simp[Eb,Bc]) (by simp[Bp,Bh]),fun e=>by cases e⟩
  | let_ h =>
   obtain⟨x0,x1,rfl⟩:=D5 hna;simp only[Az,Br]
   exact⟨(lx9 h (IH 0 x0 rfl) (IH 1 x1 rfl)).cong (by simp[Eb,Bc]) (by simp[Bp,Bh]),fun e=>by cases e⟩
  | if_ =>
   obtain⟨x0,x1,x2,rfl⟩:=V1 hna;simp only[Az,Br]
   exact⟨(lx11 (IH 0 x0 rfl) (IH 1 x1 rfl) (IH 2 x2 rfl)).cong (by simp[Eb,Bc]) (by simp[Bp,Bh]),fun e=>by cases e⟩
  | with_ h =>
   obtain⟨x0,x1,rfl⟩:=D5 hna;simp only[Az,Br]
   exact⟨(lx13 h (IH 0 x0 rfl) (IH 1 x1 rfl)).cong (by simp[Eb,Bc]) (by simp[Bp,Bh]),fun e=>by cases e⟩
  | field h =>
   obtain⟨x0,rfl⟩:=Ei hna;simp only[Az,Br]
   exact⟨(lx14 h (IH 0 x0 rfl)).cong (by simp[Eb,Bc]) (by simp[Bp,Bh]),fun e=>by cases e⟩
  | tag h =>
   obtain⟨x0,rfl⟩:=Ei hna;simp only[Az,Br]
   exact⟨(lx15 h (IH 0 x0 rfl)).cong (by simp[Eb,Bc]) (by simp[Bp,Bh]),fun e=>by cases e⟩
  | raise_ =>
   obtain⟨x0,rfl⟩:=Ei hna;simp only[Az,Br]
   exact⟨(lx18 (IH 0 x0 rfl)).cong (by simp[Eb,Bc]) (by simp[Bp,Bh]),fun e=>by cases e⟩
  | seq =>
   obtain⟨x0,x1,rfl⟩:=D5 hna;simp only[Az,Br]
   exact⟨(lx20 (IH 0 x0 rfl) (IH 1 x1 rfl)).cong (by simp[Eb,Bc]) (by simp[Bp,Bh]),fun e=>by cases e⟩
  | and_ =>
   obtain⟨x0,x1,rfl⟩:=D5 hna;simp only[Az,Br]
   exact⟨(lx21 (IH 0 x0 rfl) (IH 1 x1 rfl)).cong (by simp[Eb,Bc]) (by simp[Bp,Bh]),fun e=>by cases e⟩
  | or_ =>
   obtain⟨x0,x1,rfl⟩:=D5 hna;simp only[Az,Br]
   exact⟨(lx22 (IH 0 x0 rfl) (IH 1 x1 rfl)).cong (by simp[Eb,Bc]) (by simp[Bp,Bh]),fun e=>by cases e⟩
  | rec_ h hk =>
   obtain⟨x0,x1,rfl⟩:=D5 hna;have hx:=(IH2 0 x0 rfl).2 (hk0.trans hk);simp only[Az,Br]
   exact⟨(lx10 h hx (IH 1 x1 rfl)).cong (by simp[Eb,Bc]) (by simp[Bp,Bh]),fun e=>by cases e⟩
  | record h=>exact⟨(lx12 (S9 ls h hl true)).cong (by simp[Eb,Bc]) (by simp[Bp,Bh]),fun e=>by cases e⟩
  | match_ h =>
   obtain⟨x0,rfl⟩:=Ei hna;simp only[Az,Br]
   exact⟨(lx16 (IH 0 x0 rfl) (Og ha true)).cong (by simp[Eb,Bc]) (by simp[Bp,Bh]),fun e=>by cases e⟩
  | try_ h =>
   obtain⟨x0,rfl⟩:=Ei hna;simp only[Az,Br]
   exact⟨(lx17 (IH 0 x0 rfl) (Og ha true)).cong (by simp[Eb,Bc]) (by simp[Bp,Bh]),fun e=>by cases e⟩
  | op h =>
   refine⟨?_,fun e=>by cases e⟩;have e1:∀ l m,Eb 19 [] n [] [] l m=40::(opT n l++[41]):=fun l m=>rfl
   have e2:∀ l m,Bp 19 [] n [] [] l m=G [40]::(opK n l++[G [41]]):=fun l m=>rfl
   rw[e1,e2];unfold opT opK;by_cases hu:n=6∨n=9∨n=11
   ·rw[if_pos hu,if_pos hu];have ha:Dc n=1:=by unfold Dc;rw[if_pos (by omega)]
    rw[ha] at hna;obtain⟨x0,rfl⟩:=Ei hna;simp only[Az,Br];exact lxOp1 h.1 h.2 (IH 0 x0 rfl)
   ·rw[if_neg hu,if_neg hu];by_cases hb:n≤8∨n=12
    ·rw[if_pos hb,if_pos hb];have ha:Dc n=2:=by unfold Dc;rw[if_neg (by omega),if_neg (by omega)]
     rw[ha] at hna;obtain⟨x0,x1,rfl⟩:=D5 hna;simp only[Az,Br];exact lxOp2 h.1 h.2 (IH 0 x0 rfl) (IH 1 x1 rfl)
    ·rw[if_neg hb,if_neg hb];refine lxOpN h.1 h.2 hl ?_;intro he;have:=txEs_len args;rw[he,hna] at this;have h1:1≤Dc n:=by unfold Dc;split <;>(try split)<;> omega
     simp at this;omega
theorem Kk{x:Ab}(h:Be x=true):At (txE x)=some (tkE x++[(0,[],0)]):=by
 have:=(lexE (szE x+1) x (Nat.lt_succ_self _) h).1 [] Sep.nil_;rw[List.append_nil,show At []=some [(0,[],0)] by rfl] at this;exact this
theorem Vf{x:Ak}(h:Ct x=true):Bg (txP x) (tkP x):=lexP (szP x+1) x (Nat.lt_succ_self _) h
def B6(us:List Tok)(i:Nat)(sh:List Sp):Prop:=∀ (j:Nat)(q:Sp),sh[j]?=some q→∃ a,us[i+j]?=some ⟨q.1,a,q.2.1,q.2.2⟩
theorem B6.left{us:List Tok}{i:Nat}{a b:List Sp}(h:B6 us i (a++b)):B6 us i a:=fun j q hj=>h j q (by rw[List.getElem?_append_left (List.getElem?_eq_some_iff.1 hj).1];exact hj)
theorem B6.right{us:List Tok}{i:Nat}{a b:List Sp}(h:B6 us i (a++b)):B6 us (i+a.length) b:=fun j q hj=>by
 have:=h (a.length+j) q (by rw[List.getElem?_append_right (by omega),Nat.add_sub_cancel_left];exact hj)
 rwa [← Nat.add_assoc] at this
theorem B6.head{us:List Tok}{i:Nat}{q:Sp}{b:List Sp}(h:B6 us i (q::b)):∃ a,us[i]?=some ⟨q.1,a,q.2.1,q.2.2⟩:=h 0 q rfl
theorem B6.tail{us:List Tok}{i:Nat}{q:Sp}{b:List Sp}(h:B6 us i (q::b)):B6 us (i+1) b:=fun j p hj=>by
 have:=h (j+1) p (by simpa using hj)
 rwa [show i+(j+1)=i+1+j by omega] at this
theorem B6.of_map{us:List Tok}{sh:List Sp}(h:us.map Lr=sh):B6 us 0 sh:=fun j q hj=>by
 subst h;rw[List.getElem?_map] at hj
 cases e:us[j]? with
 | none=>rw[e] at hj;cases hj
 | some t =>
  rw[e] at hj;obtain⟨k,a,tx,n⟩:=t;simp only[Lr,Option.map_some,Option.some.injEq] at hj;subst hj;exact⟨a,by rw[Nat.zero_add];exact e⟩
structure Fi1 (t:Tok):Prop where
 let_:isB t true [[108,101,116]]=false
 fun_:isB t true [[102,117,110]]=false
 match_:isB t true [[109,97,116,99,104]]=false
 try_:isB t true [[116,114,121]]=false
 if_:isB t true [[105,102]]=false
 raise_:isB t true [[114,97,105,115,101]]=false
structure Fi2 (t:Tok):Prop where
 one:Fi1 t
 neg:isB t true [[45]]=false
 not_:isB t true [[110,111,116]]=false
structure Fi3 (t:Tok):Prop where
 two:Fi2 t
 tag:t.k≠3
 op:t.k=6→¬ 0<(Bb t.text).1
structure Fi4 (t:Tok):Prop where
 three:Fi3 t
 ex:isB t true [[33]]=false
 beg:Ci t true=true
 dot:isB t true [[46]]=false
theorem Fb{t:Tok}(h:t.k≠6∧t.k≠7)(ok:Bool)(l:List LB):isB t ok l=false:=by
 have h6:(t.k==6)=false:=bN.2 h.1;have h7:(t.k==7)=false:=bN.2 h.2;unfold isB J2;rw[h6,h7];cases ok <;> rfl
theorem Ul{t:Tok}(h:t.k≠6∧t.k≠7):Fi2 t:=⟨⟨Fb h _ _,Fb h _ _,Fb h _ _,Fb h _ _,Fb h _ _,Fb h _ _⟩,Fb h _ _,Fb h _ _⟩
theorem Lw{k:Int}{a:Nat}{tx:LB}{n:Int}(h:k=1∨k=2∨k=4∨k=5):Fi4 ⟨k,a,tx,n⟩:=by
 have h67:(⟨k,a,tx,n⟩:Tok).k≠6∧(⟨k,a,tx,n⟩:Tok).k≠7:=by show k≠6∧k≠7;omega
 refine⟨⟨Ul h67,by show k≠3;omega,fun e=>absurd e h67.1⟩,Fb h67 _ _,?_,Fb h67 _ _⟩;rcases h with rfl|rfl|rfl|rfl <;> rfl
theorem fi4_open(a:Nat)(n:Int):Fi4 ⟨7,a,[40],n⟩:=⟨⟨⟨⟨rfl,rfl,rfl,rfl,rfl,rfl⟩,rfl,rfl⟩,by show(7:Int)≠3;decide,fun e=>by cases e⟩,rfl,rfl,rfl⟩
theorem Rg(a:Nat)(n:Int):Fi4 ⟨7,a,[123],n⟩:=⟨⟨⟨⟨rfl,rfl,rfl,rfl,rfl,rfl⟩,rfl,rfl⟩,by show(7:Int)≠3;decide,fun e=>by cases e⟩,rfl,rfl,rfl⟩
theorem fi4_true(a:Nat)(n:Int):Fi4 ⟨6,a,[116,114,117,101],n⟩:=⟨⟨⟨⟨rfl,rfl,rfl,rfl,rfl,rfl⟩,rfl,rfl⟩,by show(6:Int)≠3;decide,fun _=>by show ¬ 0<(Bb [116,114,117,101]).1;decide⟩,rfl,rfl,rfl⟩
theorem Zs(a:Nat)(n:Int):Fi4 ⟨6,a,[102,97,108,115,101],n⟩:=⟨⟨⟨⟨rfl,rfl,rfl,rfl,rfl,rfl⟩,rfl,rfl⟩,by show(6:Int)≠3;decide,fun _=>by show ¬ 0<(Bb [102,97,108,115,101]).1;decide⟩,rfl,rfl,rfl⟩
theorem Um{k:Int}{a:Nat}{tx:LB}{n:Int}(hk:k=6∨k=7)(h:([[108,101,116],[102,117,110],[109,97,116,99,104],[116,114,121],[105,102],[114,97,105,115,101],[45],[110,111,116]]:List LB).contains tx=false):Fi2 ⟨k,a,tx,n⟩:=by
 have key:∀ s,s ∈ ([[108,101,116],[102,117,110],[109,97,116,99,104],[116,114,121],[105,102],[114,97,105,115,101],[45],[110,111,116]]:List LB)→isB ⟨k,a,tx,n⟩ true [s]=false:=fun s hs=>by
  rw[Bool.eq_false_iff];intro hb;unfold isB at hb;simp only[Ba',List.contains_iff_mem,List.mem_singleton] at hb;have e:tx=s:=hb.2;rw[e] at h;rw[Bool.eq_false_iff] at h;exact h (List.contains_iff_mem.2 hs)
 exact⟨⟨key _ (by simp),key _ (by simp),key _ (by simp),key _ (by simp),key _ (by simp),key _ (by simp)⟩,key _ (by simp),key _ (by simp)⟩
theorem Iw{us:List Tok}{i j:Nat}{y:Ab}{t:Tok}(ht:us[i]?=some t)(hx:isB t true [[33]]=false)(ha:Run us (body .atom) ⟨i,true⟩ (.e y) ⟨j,true⟩){x:Ab}{st':St}(hl:Run us (body (.postL y)) ⟨j,true⟩ (.e x) st'):Run us (body .post) ⟨i,true⟩ (.e x) st':=by
 refine .look ht (Run.mayN ht hx ?_);rw[if_neg (by decide)];exact .callE ha (.callE hl .retE)
theorem P1{us:List Tok}{j:Nat}{y:Ab}{u:Tok}(hu:us[j]?=some u)(hd:isB u true [[46]]=false):Run us (body (.postL y)) ⟨j,true⟩ (.e y) ⟨j,true⟩:=by
 refine .look hu ?_;simp only;rw[hd,if_neg (by decide)];exact .retE
theorem Vg{us:List Tok}{j:Nat}{y:Ab}{a a2:Nat}{m m2:Int}{nm:LB}(h0:us[j]?=some ⟨7,a,[46],m⟩)(h1:us[j+1]?=some ⟨1,a2,nm,m2⟩){x:Ab}{st':St}(hl:Run us (body (.postL (.mk 14 a nm 0 [] [] [y] []))) ⟨j+2,true⟩ (.e x) st'):Run us (body (.postL y)) ⟨j,true⟩ (.e x) st':=by
 refine .look h0 ?_;simp only;rw[if_pos (by rfl)];refine .adv (.look h1 ?_);simp only;rw[if_pos (by rfl)];exact .adv (.callE hl .retE)
theorem Mj{us:List Tok}{j:Nat}{y:Ab}{u:Tok}(hu:us[j]?=some u)(hb:Ci u true=false):Run us (body (.appL y)) ⟨j,true⟩ (.e y) ⟨j,true⟩:=by
 refine .look hu ?_;simp only;rw[hb,if_neg (by decide)];exact .retE
theorem appL_one{us:List Tok}{j k:Nat}{y z:Ab}{u v:Tok}(hu:us[j]?=some u)(hb:Ci u true=true)(hz:Run us (body .post) ⟨j,true⟩ (.e z) ⟨k,true⟩)(hv:us[k]?=some v)(hvb:Ci v true=false):Run us (body (.appL y)) ⟨j,true⟩ (.e (D4 8 y.at_ [y,z])) ⟨k,true⟩:=by
 refine .look hu ?_;simp only;rw[hb,if_pos rfl];exact .callE hz (.callE (Mj hv hvb) .retE)
theorem Wi{us:List Tok}{i j k:Nat}{y z:Ab}{t:Tok}(ht:us[i]?=some t)(hf:Fi3 t)(hp:Run us (body .post) ⟨i,true⟩ (.e y) ⟨j,true⟩)(hl:Run us (body (.appL y)) ⟨j,true⟩ (.e z) ⟨k,true⟩):Run us (body .app) ⟨i,true⟩ (.e z) ⟨k,true⟩:=by
 refine .look ht ?_;simp only;have h3:(true&&t.k==3)=false:=by rw[Bool.true_and];exact bN.2 hf.tag
 have h6:(true&&t.k==6&&decide (0<(Bb t.text).1))=false:=by
  rw[Bool.true_and,Bool.and_eq_false_iff];by_cases e:t.k=6
  ·exact .inr (by rw[decide_eq_false_iff_not];exact hf.op e)
  ·exact .inl (bN.2 e)
 rw[h3,if_neg (by decide),h6,if_neg (by decide)];exact .callE hp (.callE hl .retE)
theorem Wc{us:List Tok}{i j:Nat}{y:Ab}{t:Tok}(ht:us[i]?=some t)(hf:Fi2 t)(ha:Run us (body .app) ⟨i,true⟩ (.e y) ⟨j,true⟩):Run us (body .unary) ⟨i,true⟩ (.e y) ⟨j,true⟩:=by
 refine .look ht (Run.mayN ht hf.neg ?_);rw[if_neg (by decide)];refine Run.mayN ht hf.not_ ?_;rw[if_neg (by decide)];exact .callE ha .retE
theorem Yl{us:List Tok}{i:Nat}{t:Tok}(ht:us[i]?=some t)(hf:Fi1 t){r:Rs}{st':St}(hr:Run us (.callE .or fun a => .look fun t _=>Cl [58,61] fun b=>if b=true then .callE .item fun c => .retE (opE 12 t.at' [a,c])else .retE a) ⟨i,true⟩ r st'):Run us (body .item) ⟨i,true⟩ r st':=by
 refine .look ht (Run.mayN ht hf.let_ ?_);rw[if_neg (by decide)];refine .look ht ?_;simp only;rw[hf.fun_,if_neg (by decide)];refine Run.mayN ht hf.match_ ?_;rw[if_neg (by decide)];refine Run.mayN ht hf.try_ ?_;rw[if_neg (by decide)];refine Run.mayN ht hf.if_ ?_;rw[if_neg (by decide)];refine Run.mayN ht hf.raise_ ?_;rw[if_neg (by decide)];exact hr
theorem up1{us:List Tok}{i j:Nat}{x:Ab}{t u:Tok}(ht:us[i]?=some t)(hf:Fi1 t)(hu:us[j]?=some u):∀ {L:Nat},L<7→isB u true (Mc L)=false→Run us (body (L6 (L+1))) ⟨i,true⟩ (.e x) ⟨j,true⟩→Run us (body (L6 L)) ⟨i,true⟩ (.e x) ⟨j,true⟩
 | 0,_,hb,hr=>by
  refine .callE hr (.look hu (Run.mayN hu hb ?_))
  rw[if_neg (by decide)];exact .retE
 | 1,_,hb,hr=>by
  refine Yl ht hf (.callE hr (.look hu (Run.mayN hu hb ?_)))
  rw[if_neg (by decide)];exact .retE
 | 2,_,hb,hr=>by
  refine .callE hr (.look hu (Run.mayN hu hb ?_))
  rw[if_neg (by decide)];exact .retE
 | 3,_,hb,hr=>by
  refine .callE hr (.look hu (Run.mayN hu hb ?_))
  rw[if_neg (by decide)];exact .retE
 | 4,_,hb,hr=>by
  refine .callE hr (.look hu ?_);simp only
  rw[show isB u true [[61],[60]]=false from hb,if_neg (by decide)];exact .retE
 | 5,_,hb,hr=>by
  refine .callE hr (.callE (.look hu ?_) .retE);simp only
  rw[show isB u true [[43],[45]]=false from hb,if_neg (by decide)];exact .retE
 | 6,_,hb,hr=>by
  refine .callE hr (.callE (.look hu ?_) .retE);simp only
  rw[show isB u true [[42],[47],[37]]=false from hb,if_neg (by decide)];exact .retE
 | _+7,h,_,_=>by omega
theorem upN{us:List Tok}{i j:Nat}{x:Ab}{t u:Tok}{l:Nat}(ht:us[i]?=some t)(hf:Fi1 t)(hu:us[j]?=some u)(hs:Hb u l)(L:Nat)(hL:l≤L):∀ (n:Nat),L+n≤7→Run us (body (L6 (L+n))) ⟨i,true⟩ (.e x) ⟨j,true⟩→Run us (body (L6 L)) ⟨i,true⟩ (.e x) ⟨j,true⟩
 | 0,_,hr=>hr
 | n+1,h,hr=>upN ht hf hu hs L hL n (by omega) (up1 ht hf hu (by omega) (hs.lv _ (by omega) (by omega)) hr)
theorem up{us:List Tok}{i j:Nat}{x:Ab}{t u:Tok}{l:Nat}(ht:us[i]?=some t)(hf:Fi1 t)(hu:us[j]?=some u)(hs:Hb u l)(L M:Nat)(hL:l≤L)(hM:L≤M)(h7:M≤7)(hr:Run us (body (L6 M)) ⟨i,true⟩ (.e x) ⟨j,true⟩):Run us (body (L6 L)) ⟨i,true⟩ (.e x) ⟨j,true⟩:=
 upN ht hf hu hs L hL (M-L) (by omega) (by rw[show L+(M-L)=M by omega];exact hr)
theorem up_post{us:List Tok}{i j:Nat}{x:Ab}{t u:Tok}{l:Nat}(ht:us[i]?=some t)(hf:Fi4 t)(hu:us[j]?=some u)(hs:Hb u l)(L:Nat)(hL:l≤L)(h7:L≤7)(hr:Run us (body .post) ⟨i,true⟩ (.e x) ⟨j,true⟩):Run us (body (L6 L)) ⟨i,true⟩ (.e x) ⟨j,true⟩:=
 up ht hf.three.two.one hu hs L 7 hL h7 (Nr' _) (Wc ht hf.three.two (Wi ht hf.three hr (Mj hu hs.beg)))
theorem join2{us:List Tok}{i j k:Nat}{x y:Ab}{t v u:Tok}(ht:us[i]?=some t)(hf:Fi1 t)(hv:us[j]?=some v)(hu:us[k]?=some u){L:Nat}(h7:L<7)(hb:isB v true (Mc L)=true)(hn:5≤L→isB u true (Mc L)=false)
  (hx:Run us (body (L6 (L+1))) ⟨i,true⟩ (.e x) ⟨j,true⟩) (hy:Run us (body (L6 (rOf L))) ⟨j+1,true⟩ (.e y) ⟨k,true⟩):Run us (body (L6 L)) ⟨i,true⟩ (.e (mkB L v.text v.at' x y)) ⟨k,true⟩:=by
 by_cases h1:L=1
 ·subst h1;refine Yl ht hf (.callE hx (.look hv (Run.mayY hv hb ?_)));rw[if_pos rfl];exact .callE hy .retE
 ·exact join_two hv hu h7 hb hn (fun e=>absurd e h1) hx hy
theorem stop_of{u:Tok}(hd:isB u true [[46]]=false)(hb:Ci u true=false)(h:∀ L,L<7→isB u true (Mc L)=false):Hb u 0:=⟨hd,hb,fun L _ h7=>h L h7⟩
theorem Ie{k:Int}{a:Nat}{tx:LB}{n:Int}(h:([[46],[59],[58,61],[124,124],[38,38],[61],[60],[43],[45],[42],[47],[37],[116,114,117,101],[102,97,108,115,101],[40],[123],[33]]:List LB).contains tx=false)(hk:k=6∨k=7):Hb ⟨k,a,tx,n⟩ 0:=by
 have key:∀ l:List LB,(∀ s ∈ l,s ∈ ([[46],[59],[58,61],[124,124],[38,38],[61],[60],[43],[45],[42],[47],[37],[116,114,117,101],[102,97,108,115,101],[40],[123],[33]]:List LB))→isB ⟨k,a,tx,n⟩ true l=false:=fun l hl=>by
  rw[Bool.eq_false_iff];intro hb;unfold isB at hb;simp only[Ba',List.contains_iff_mem] at hb;rw[Bool.eq_false_iff] at h;exact h (List.contains_iff_mem.2 (hl _ hb.2))
 refine stop_of (key _ (by decide)) ?_ (fun L h7=>?_)
 ·unfold Ci;have e:(true&&(k==1||k==2||k==4||k==5))=false:=by rcases hk with rfl|rfl <;> rfl
  show((true&&(k==1||k==2||k==4||k==5))||isB ⟨k,a,tx,n⟩ true [[116,114,117,101],[102,97,108,115,101],[40],[123],[33]])=false;rw[e,key _ (by decide)];rfl
 ·have:L=0∨L=1∨L=2∨L=3∨L=4∨L=5∨L=6:=by omega
  rcases this with rfl|rfl|rfl|rfl|rfl|rfl|rfl <;> exact key _ (by decide)
theorem paren{us:List Tok}{d e a c:Nat}{m m':Int}{x:Ab}{t:Tok}(h0:us[d]?=some ⟨7,a,[40],m⟩)(h1:us[d+1]?=some t)(hn:isB t true [[41]]=false)(hr:Run us (body .seq) ⟨d+1,true⟩ (.e x) ⟨e,true⟩)(h2:us[e]?=some ⟨7,c,[41],m'⟩):Run us (body .atom) ⟨d,true⟩ (.e x) ⟨e+1,true⟩:=
 Tu h0 h1 hn hr h2
theorem Gy{us:List Tok}{i j:Nat}{x:Ab}{u:Tok}(hu:us[j]?=some u)(hs:isB u true [[59]]=false)(hr:Run us (body .item) ⟨i,true⟩ (.e x) ⟨j,true⟩):Run us (body .seq) ⟨i,true⟩ (.e x) ⟨j,true⟩:=by
 refine .callE hr (.look hu (Run.mayN hu hs ?_));rw[if_neg (by decide)];exact .retE
end Go.Proofs.YtabhpdhajajoiaaGreatDoor
